/- See R54. -/
import Derived.Test.YtgafjliihahjgaaGreatDoorR35
set_option linter.all false
set_option maxRecDepth 100000
set_option maxHeartbeats 40000000
namespace Go.Proofs
open Go.Eng
open Tryz
def clV(L n:Nat):AV:=if n=0 then .kK else .slice (L+1) 0 n none
def clX(es n:Nat) (C:List AV):aeD:=if n=0 then .kO else .cells true es C
theorem jG(L n:Nat):(clV L n).kS=true:=by unfold clV;split<;>rfl
variable{L k n:Nat}
theorem Up(h:L+1<k):(clV L n).y9 (fun b=>decide (b<k))=true:=by
 unfold clV;split
 ·rfl
 ·simp[AV.y9];omega
theorem mI(es n:Nat)(C:List AV):gm (clX es n C)=true:=by unfold clX;split<;>rfl
variable{C:List AV}{es:Nat}
theorem q9(h:∀f,AV.aeB f C=true)(f:Nat→Bool):(clX es n C).y9 f=true:=by
 unfold clX;split
 ·rfl
 ·exact h f
variable{N:Mem}
theorem yG(h:N[L+1]? =some (clX es n C))(hC:n=0→C=[]):aeJ N (clV L n) es n C:=by
 unfold clX at h;unfold clV;split
 ·rename_i h0;exact .inl ⟨rfl,h0,hC h0⟩
 ·rename_i h0
  rw[if_neg h0] at h;exact .inr ⟨_,true,rfl,by omega,h⟩
variable{M:Mem}{v:AV}
theorem VD(h:aeJ M v 2 n C)(hl:C.length=n*2)(hn:n≤1000)(H':C.all AV.kS=true):
  kF prog 63 [v] M (clV M.length n) (M++[.kO,clX 2 n C]):=by
 have hG:aT prog 63=some f63:=by kernel_rfl
 rcases h with⟨rfl,rfl,rfl⟩ | ⟨b,o,rfl,hp,hb⟩
 ·have h:aU (aM prog) (fun _=>[]) (aT prog) bq 1 63 [.kK] M=some (.kK,M):=by simp[aU,hG,f63,Ax]
  have:=aO ae (aq _) (ah _) (au _) h;simpa [clV,clX] using fT 2 this
 ·have lb:=(gL hb)
  have UV :∀Z,(M++Z)[b]? =some (.cells o 2 C):=fun Z=>by rw[List.getElem?_append_left lb];exact hb
  have ht:C.take (n*2)=C:=List.take_of_length_le (by omega);have X7:n*2≤C.length:=by omega
  have q1:n*32≤140737488355328:=by omega
  have q2:n≤140737488355328:=by omega
  have h:aU (aM prog) (fun _=>[]) (aT prog) bq 1 63 [.slice b 0 n none] M=some (.slice (M.length+1) 0 n none,M++[.kO,.cells true 2 C]):=by simp[-List.all_eq_true,-AV.kS,aU,hG,f63,Ax,UV,ht,X7,q1,q2,H'];done
  have:=aO ae (aq _) (ah _) (au _) h;unfold clV clX;rw[if_neg (by omega),if_neg (by omega)];exact this
theorem VF(h:aeJ M v 3 n C)(hl:C.length=n*3)(hn:n≤1000)(H':C.all AV.kS=true):
  kF prog 64 [v] M (clV M.length n) (M++[.kO,clX 3 n C]):=by
 have hG:aT prog 64=some f64:=by kernel_rfl
 rcases h with⟨rfl,rfl,rfl⟩ | ⟨b,o,rfl,hp,hb⟩
 ·have h:aU (aM prog) (fun _=>[]) (aT prog) bq 1 64 [.kK] M=some (.kK,M):=by simp[aU,hG,f64,Ax]
  have:=aO ae (aq _) (ah _) (au _) h;simpa [clV,clX] using fT 2 this
 ·have lb:=(gL hb)
  have UV :∀Z,(M++Z)[b]? =some (.cells o 3 C):=fun Z=>by rw[List.getElem?_append_left lb];exact hb
  have ht:C.take (n*3)=C:=List.take_of_length_le (by omega);have X7:n*3≤C.length:=by omega
  have q1:n*24≤140737488355328:=by omega
  have q2:n≤140737488355328:=by omega
  have h:aU (aM prog) (fun _=>[]) (aT prog) bq 1 64 [.slice b 0 n none] M=some (.slice (M.length+1) 0 n none,M++[.kO,.cells true 3 C]):=by simp[-List.all_eq_true,-AV.kS,aU,hG,f64,Ax,UV,ht,X7,q1,q2,H'];done
  have:=aO ae (aq _) (ah _) (au _) h;unfold clV clX;rw[if_neg (by omega),if_neg (by omega)];exact this
section
variable (h:aeJ M v 1 n C)(hl:C.length=n*1)(hn:n≤1000)(H':C.all AV.kS=true)
include h hl hn H'
theorem VB:
  kF prog 65 [v] M (clV M.length n) (M++[.kO,clX 1 n C]):=by
 have hG:aT prog 65=some f65:=by kernel_rfl
 rcases h with⟨rfl,rfl,rfl⟩ | ⟨b,o,rfl,hp,hb⟩
 ·have h:aU (aM prog) (fun _=>[]) (aT prog) bq 1 65 [.kK] M=some (.kK,M):=by simp[aU,hG,f65,Ax]
  have:=aO ae (aq _) (ah _) (au _) h;simpa [clV,clX] using fT 2 this
 ·have lb:=(gL hb)
  have UV :∀Z,(M++Z)[b]? =some (.cells o 1 C):=fun Z=>by rw[List.getElem?_append_left lb];exact hb
  have ht:C.take (n)=C:=List.take_of_length_le (by omega);have X7:n≤C.length:=by omega
  have q1:n*16≤140737488355328:=by omega
  have q2:n≤140737488355328:=by omega
  have h:aU (aM prog) (fun _=>[]) (aT prog) bq 1 65 [.slice b 0 n none] M=some (.slice (M.length+1) 0 n none,M++[.kO,.cells true 1 C]):=by simp[-List.all_eq_true,-AV.kS,aU,hG,f65,Ax,UV,ht,X7,q1,q2,H'];done
  have:=aO ae (aq _) (ah _) (au _) h;unfold clV clX;rw[if_neg (by omega),if_neg (by omega)];exact this
theorem VE:
  kF prog 66 [v] M (clV M.length n) (M++[.kO,clX 1 n C]):=by
 have hG:aT prog 66=some f66:=by kernel_rfl
 rcases h with⟨rfl,rfl,rfl⟩ | ⟨b,o,rfl,hp,hb⟩
 ·have h:aU (aM prog) (fun _=>[]) (aT prog) bq 1 66 [.kK] M=some (.kK,M):=by simp[aU,hG,f66,Ax]
  have:=aO ae (aq _) (ah _) (au _) h;simpa [clV,clX] using fT 2 this
 ·have lb:=(gL hb)
  have UV :∀Z,(M++Z)[b]? =some (.cells o 1 C):=fun Z=>by rw[List.getElem?_append_left lb];exact hb
  have ht:C.take (n)=C:=List.take_of_length_le (by omega);have X7:n≤C.length:=by omega
  have q1:n*16≤140737488355328:=by omega
  have q2:n≤140737488355328:=by omega
  have h:aU (aM prog) (fun _=>[]) (aT prog) bq 1 66 [.slice b 0 n none] M=some (.slice (M.length+1) 0 n none,M++[.kO,.cells true 1 C]):=by simp[-List.all_eq_true,-AV.kS,aU,hG,f66,Ax,UV,ht,X7,q1,q2,H'];done
  have:=aO ae (aq _) (ah _) (au _) h;unfold clV clX;rw[if_neg (by omega),if_neg (by omega)];exact this
end
theorem VC(h:aeJ M v 2 n C)(hl:C.length=n*2)(hn:n≤1000)(H':C.all AV.kS=true):
  kF prog 67 [v] M (clV M.length n) (M++[.kO,clX 2 n C]):=by
 have hG:aT prog 67=some f67:=by kernel_rfl
 rcases h with⟨rfl,rfl,rfl⟩ | ⟨b,o,rfl,hp,hb⟩
 ·have h:aU (aM prog) (fun _=>[]) (aT prog) bq 1 67 [.kK] M=some (.kK,M):=by simp[aU,hG,f67,Ax]
  have:=aO ae (aq _) (ah _) (au _) h;simpa [clV,clX] using fT 2 this
 ·have lb:=(gL hb)
  have UV :∀Z,(M++Z)[b]? =some (.cells o 2 C):=fun Z=>by rw[List.getElem?_append_left lb];exact hb
  have ht:C.take (n*2)=C:=List.take_of_length_le (by omega);have X7:n*2≤C.length:=by omega
  have q1:n*32≤140737488355328:=by omega
  have q2:n≤140737488355328:=by omega
  have h:aU (aM prog) (fun _=>[]) (aT prog) bq 1 67 [.slice b 0 n none] M=some (.slice (M.length+1) 0 n none,M++[.kO,.cells true 2 C]):=by simp[-List.all_eq_true,-AV.kS,aU,hG,f67,Ax,UV,ht,X7,q1,q2,H'];done
  have:=aO ae (aq _) (ah _) (au _) h;unfold clV clX;rw[if_neg (by omega),if_neg (by omega)];exact this
def ae5(N N' :Mem):Prop:=∀(b:Nat) o es C,es=1∨es=2∨es=3→N[b]? =some (.cells o es C)→N'[b]? =some (.cells o es C)
theorem ae5.refl(N:Mem):ae5 N N:=fun _ _ _ _ _ h=>h
theorem ae5.trans{A B C:Mem}(h:ae5 A B)(h' :ae5 B C):ae5 A C:=fun b o es D Y7 hb=>h' b o es D Y7 (h b o es D Y7 hb)
theorem ae5.app(N Z:Mem):ae5 N (N++Z):=fun b o es D _ hb=>by rw[List.getElem?_append_left (gL hb)];exact hb
theorem ae5.set{e:Nat}{o:Bool}{D:List AV}(h:N[k]? =some (.cells o e D))(he:e=0∨e=32)(s:aeD):ae5 N (N.set k s):=fun b o' es D' Y7 hb=>by
 rw[List.getElem?_set_ne]
 ·exact hb
 ·rintro rfl
  rw[h] at hb;cases hb;omega
variable{N' :Mem}
theorem aeJ.upd(h:aeJ N v es n C)(Y7:es=1∨es=2∨es=3)(hk:ae5 N N'):aeJ N' v es n C:=by
 rcases h with h | ⟨b,o,h1,h2,h3⟩
 ·exact .inl h
 ·exact .inr ⟨b,o,h1,h2,hk b o es C Y7 h3⟩
theorem afN.upd{S:List (List (List UInt8))}(h:afN N v S)(hk:ae5 N N'):afN N' v S:=by obtain⟨vs,h1,h2,h3⟩:=h;exact⟨vs,h1,h2.upd (.inl rfl) hk,fun i x L a b=>(h3 i x L a b).upd (.inl rfl) hk⟩
theorem afi.upd{ev:List AV}{c:Evc}(h:afi N ev c)(hk:ae5 N N'):afi N' ev c:=by obtain⟨b,u,s,kn,h1,h2,h3,h4,h5⟩:=h;exact⟨b,u,s,kn,h1,h2.upd (.inl rfl) hk,h3.upd (.inl rfl) hk,h4.upd hk,h5.upd (.inr (.inl rfl)) hk⟩
theorem ow(L:List (List UInt8)):(stC L).all AV.kS=true:=by rw[List.all_eq_true];intro x hx;simp only[stC,List.mem_map] at hx;obtain⟨y,_,rfl⟩:=hx;rfl
theorem J8:∀L:List (List UInt8×List UInt8),(kC L).all AV.kS=true
 | []=>rfl
 |k::l=>by simp only[kC,List.all_cons,J8 l];rfl
theorem Vy:∀L:List Tr,(tC L).all AV.kS=true
 | []=>rfl
 |k::l=>by simp only[tC,List.all_cons,Vy l];rfl
end Go.Proofs
namespace Go.Proofs
open Go.Eng
end Go.Proofs
namespace Go.Proofs
open Go.Eng
open Tryz
def afQ(N:Mem) (v:AV) (n:Nat) (C:List AV):Prop:=(n=0∧C=[]∧(v=.kK∨∃b,v=.slice b 0 0 none))∨∃b o D,v=.slice b 0 n none∧0<n∧N[b]? =some (.cells o 32 D)∧D.take (n*32)=C
theorem afQ.more{N:Mem}{v:AV}{n:Nat}{C:List AV}(h:afQ N v n C)(Z:Mem):afQ (N++Z) v n C:=by
 rcases h with h | ⟨b,o,D,h1,h2,h3,h4⟩
 ·exact .inl h
 ·exact .inr ⟨b,o,D,h1,h2,by rw[List.getElem?_append_left (gL h3)];exact h3,h4⟩
def Qg(N:Mem) (v:AV) (cs:List Evc):Prop:=∃evs:List (List AV),evs.length=cs.length∧afQ N v cs.length evs.flatten∧∀(i:Nat) e c,evs[i]? =some e→cs[i]? =some c→afi N e c
theorem W5:∀{l:List (List AV)}{i:Nat}{e:List AV},(∀x∈l,x.length=32)→l[i]? =some e→(l.flatten.drop (i*32)).take 32=e∧i*32+32≤l.flatten.length
 | [],i,e,_,h=>by simp at h
 |x::l,0,e,hl,h=>by simp at h;subst h;have:=hl x (by simp);refine⟨by rw[Nat.zero_mul,List.drop_zero,List.flatten_cons,List.take_append_of_le_length (by omega),List.take_of_length_le (by omega)],by rw[List.flatten_cons,List.length_append];omega⟩
 |x::l,i+1,e,hl,h=>by have hx:=hl x (by simp);obtain⟨a,b⟩:=W5 (l:=l) (i:=i) (e:=e) (fun y hy=>hl y (by simp[hy])) (by simpa using h);refine⟨?_,by rw[List.flatten_cons,List.length_append];omega⟩;rw[List.flatten_cons,List.drop_append,List.drop_of_length_le (by omega),List.nil_append,hx,show(i+1)*32-32=i*32 by omega];exact a
theorem GB{N:Mem}{v:AV}{n:Nat}{C:List AV}(h:afQ N v n C)(N' :Mem):lD (aM prog) 38 N' v=some (.int .i64 n):=by rcases h with⟨rfl,_,rfl | ⟨b,rfl⟩⟩ | ⟨b,o,D,rfl,_⟩<;>simp
def dD(c:Go.Eng.Callee) (a:List AV) (N:Mem) (r:HS):Prop:=match c,a with
 |.fn 63,[v]=>∃n C,aeJ N v 2 n C∧C.length=n*2∧n≤1000∧C.all AV.kS=true∧r=⟨clV N.length n,none,[.kO,clX 2 n C]⟩
 |.fn 64,[v]=>∃n C,aeJ N v 3 n C∧C.length=n*3∧n≤1000∧C.all AV.kS=true∧r=⟨clV N.length n,none,[.kO,clX 3 n C]⟩
 |.fn 65,[v]=>∃n C,aeJ N v 1 n C∧C.length=n*1∧n≤1000∧C.all AV.kS=true∧r=⟨clV N.length n,none,[.kO,clX 1 n C]⟩
 |.fn 66,[v]=>∃n C,aeJ N v 1 n C∧C.length=n*1∧n≤1000∧C.all AV.kS=true∧r=⟨clV N.length n,none,[.kO,clX 1 n C]⟩
 |.fn 67,[v]=>∃n C,aeJ N v 2 n C∧C.length=n*2∧n≤1000∧C.all AV.kS=true∧r=⟨clV N.length n,none,[.kO,clX 2 n C]⟩
 |_,_=>False
theorem OD:kP prog (gC dD):=FD fun c a N r h=>by
 unfold dD at h;split at h
 ·obtain⟨n,C,h1,h2,h3,h4,rfl⟩:=h
  exact af (VD h1 h2 h3 h4)
 ·obtain⟨n,C,h1,h2,h3,h4,rfl⟩:=h
  exact af (VF h1 h2 h3 h4)
 ·obtain⟨n,C,h1,h2,h3,h4,rfl⟩:=h
  exact af (VB h1 h2 h3 h4)
 ·obtain⟨n,C,h1,h2,h3,h4,rfl⟩:=h
  exact af (VE h1 h2 h3 h4)
 ·obtain⟨n,C,h1,h2,h3,h4,rfl⟩:=h
  exact af (VC h1 h2 h3 h4)
 ·exact h.elim
theorem Tv{N:Mem}{v:AV}{n:Nat}{C:List AV}(h1:aeJ N v 2 n C)(h2:C.length=n*2)(h3:n≤1000)(h4:C.all AV.kS=true):gC dD (.fn 63) [v] N=some ⟨clV N.length n,none,[.kO,clX 2 n C]⟩:=
 fh (S:=dD) ⟨n,C,h1,h2,h3,h4,rfl⟩ fun r' h=>by obtain⟨n',C',k1,_,_,_,rfl⟩:=h;obtain⟨rfl,rfl⟩:=h1.inj k1;rfl
theorem Tw{N:Mem}{v:AV}{n:Nat}{C:List AV}(h1:aeJ N v 3 n C)(h2:C.length=n*3)(h3:n≤1000)(h4:C.all AV.kS=true):gC dD (.fn 64) [v] N=some ⟨clV N.length n,none,[.kO,clX 3 n C]⟩:=
 fh (S:=dD) ⟨n,C,h1,h2,h3,h4,rfl⟩ fun r' h=>by obtain⟨n',C',k1,_,_,_,rfl⟩:=h;obtain⟨rfl,rfl⟩:=h1.inj k1;rfl
theorem qR{N:Mem}{v:AV}{n:Nat}{C:List AV}(h1:aeJ N v 1 n C)(h2:C.length=n*1)(h3:n≤1000)(h4:C.all AV.kS=true):gC dD (.fn 65) [v] N=some ⟨clV N.length n,none,[.kO,clX 1 n C]⟩:=
 fh (S:=dD) ⟨n,C,h1,h2,h3,h4,rfl⟩ fun r' h=>by obtain⟨n',C',k1,_,_,_,rfl⟩:=h;obtain⟨rfl,rfl⟩:=h1.inj k1;rfl
theorem zN{N:Mem}{v:AV}{n:Nat}{C:List AV}(h1:aeJ N v 1 n C)(h2:C.length=n*1)(h3:n≤1000)(h4:C.all AV.kS=true):gC dD (.fn 66) [v] N=some ⟨clV N.length n,none,[.kO,clX 1 n C]⟩:=
 fh (S:=dD) ⟨n,C,h1,h2,h3,h4,rfl⟩ fun r' h=>by obtain⟨n',C',k1,_,_,_,rfl⟩:=h;obtain⟨rfl,rfl⟩:=h1.inj k1;rfl
theorem Ec{N:Mem}{v:AV}{n:Nat}{C:List AV}(h1:aeJ N v 2 n C)(h2:C.length=n*2)(h3:n≤1000)(h4:C.all AV.kS=true):gC dD (.fn 67) [v] N=some ⟨clV N.length n,none,[.kO,clX 2 n C]⟩:=
 fh (S:=dD) ⟨n,C,h1,h2,h3,h4,rfl⟩ fun r' h=>by obtain⟨n',C',k1,_,_,_,rfl⟩:=h;obtain⟨rfl,rfl⟩:=h1.inj k1;rfl
def fW(c:Code):List Nat:=if (aa c).contains 28 then [28,28,28] else [48,48,48,8]
structure CpI (N0:Mem) (kc:Nat) (pv tv:AV) (cs:List Evc) (N:Mem) (i:Nat) (E:AV) (evs:List (List AV)):Prop where
 len:N0.length≤N.length
 same:∀k,k<N0.length→k≠kc→N[k]? =N0[k]?
 cell:N[kc]? =some (.cells true 0 [pv,tv,.str ar,E])
 evl:evs.length=i
 row:(i=0∧E=.kK)∨∃kr,E=.slice kr 0 i none∧0<i∧N0.length≤kr∧N[kr]? =some (.cells true 32 evs.flatten)
 con:∀(k:Nat) e c,evs[k]? =some e→cs[k]? =some c→afi N e c
 afq:ae5 N0 N
 ok:∀(k:Nat) x,N0.length≤k→N[k]? =some x→gm x=true∧x.y9 (fun b=>decide (b<N.length))=true
theorem Np:∀{l:List (List AV)},(∀x∈l,x.length=32)→l.flatten.length=l.length*32
 | [],_=>rfl
 |x::l,h=>by rw[List.flatten_cons,List.length_append,h x (by simp),Np (fun y hy=>h y (by simp[hy])),List.length_cons,Nat.succ_mul];omega
variable{E:AV}{c:Evc}{cs:List Evc}{e:List AV}{evs:List (List AV)}{i kc:Nat}
theorem CpI.step{N0 N Z:Mem}{pv tv:AV}(H:CpI N0 kc pv tv cs N i E evs)(hkc:kc<N0.length)(hc:cs[i]? =some c)(N' :Mem)(hkr:Nat)(ZR :(i=0→N' =(N.set kc (.cells true 0 [pv,tv,.str ar,.slice hkr 0 (i+1) none]))++Z)∧(∀kr,E=.slice kr 0 i none→N' =((N.set kr .kO).set kc (.cells true 0 [pv,tv,.str ar,.slice hkr 0 (i+1) none]))++Z))(YE:N.length≤hkr∧N'[hkr]? =some (.cells true 32 (evs.flatten++e)))(he:afi N' e c)(adW:Z.all (fun x=>gm x&&x.y9 (fun b=>decide (b<N.length+Z.length)))=true):CpI N0 kc pv tv cs N' (i+1) (.slice hkr 0 (i+1) none) (evs++[e]):=by
 have hl:=H.len;have XR:=H.cell;have key:∃N1:Mem,N' =N1.set kc (.cells true 0 [pv,tv,.str ar,.slice hkr 0 (i+1) none])++Z∧N1.length=N.length∧(∀k,k<N0.length→N1[k]? =N[k]?)∧ae5 N N1∧∀(k:Nat) x,N1[k]? =some x→N[k]? =some x∨x=.kO:=by
  rcases H.row with⟨h0,hE⟩ | ⟨kr,hE,h0,hk,hr⟩
  ·exact⟨N,ZR.1 h0,rfl,fun k _=>rfl,ae5.refl N,fun k x h=>.inl h⟩
  ·refine⟨N.set kr .kO,ZR.2 kr hE,by simp,fun k hk2=>?_,ae5.set hr (.inr rfl) _,fun k x h=>?_⟩
   ·rw[List.getElem?_set_ne (by omega)]
   ·rw[List.getElem?_set] at h
    split at h
    ·split at h
     ·cases h;exact .inr rfl
     ·cases h
    ·exact .inl h
 obtain⟨N1,rfl,h1,h2,h3,h4⟩:=key;have F':(N1.set kc (.cells true 0 [pv,tv,.str ar,.slice hkr 0 (i+1) none])).length=N.length:=by rw[List.length_set,h1]
 have hk3:ae5 N (N1.set kc (.cells true 0 [pv,tv,.str ar,.slice hkr 0 (i+1) none])++Z):=h3.trans ((ae5.set (by rw[h2 kc hkc];exact XR) (.inl rfl) _).trans (ae5.app _ _));refine⟨by rw[List.length_append,F'];omega,fun k hk PP=>?_,?_,by rw[List.length_append,H.evl];rfl,.inr ⟨hkr,rfl,by omega,by omega,by rw[YE.2,List.flatten_append];simp⟩,fun k x c' hx hc' =>?_,H.afq.trans hk3,fun k x hk hx=>?_⟩
 ·rw[List.getElem?_append_left (by omega),List.getElem?_set_ne (by omega),h2 k hk]
  exact H.same k hk PP
 ·rw[List.getElem?_append_left (by omega),List.getElem?_set_self (by omega)]
 ·rw[List.getElem?_append] at hx
  split at hx
  ·exact(H.con k x c' hx hc').upd hk3
  ·rename_i hge
   have hk:k=i:=by have:=(gL hx);rw[H.evl] at hge this;simp at this;omega
   subst hk;rw[H.evl,Nat.sub_self] at hx;simp at hx;subst hx;rw[hc] at hc';cases hc';exact he
 ·rw[List.length_append,F']
  rw[List.getElem?_append] at hx;split at hx
  ·rename_i A'
   rw[List.getElem?_set_ne (by omega)] at hx;rcases h4 k x hx with h5 | rfl
   ·obtain⟨a,b⟩:=H.ok k x hk h5
    exact⟨a,aeD.aeH (fun y hy=>by simp only[decide_eq_true_eq] at hy ⊢;omega) x b⟩
   ·exact⟨rfl,rfl⟩
  ·have:=List.all_eq_true.1 adW x (List.mem_of_getElem? hx)
   simpa only[Bool.and_eq_true] using this
theorem fq(k:Nat)(M:Mem)(lo n:Nat)(h:k<lo):(((bp (fun b=>decide (b=k)) 0 M).drop lo).take n).all oU=true:=
 Ds _ M lo n fun b h1 _=>by simp;omega
theorem PJ(a b:Nat):(!decide (a≤b)|| !decide (b<a))=true:=by
 rcases Nat.lt_or_ge b a with h | h
 ·simp[Nat.not_le.2 h]
 ·simp[Nat.not_lt.2 h]
theorem cd(bs:List Nat)(j:Nat)(acc:List (Nat×Rec))(r:Rec)(rest:List Rec):jN bs j acc (r::rest)=(r.v.y9 (fun b=>decide (b<r.nx.length))&&(bW r||(fz bs j r (j+1) rest&&(r.wr.isEmpty||(iT bs j r acc&&r.wr.all (fun b=>dI r.tm b&&(match r.nx[b]? with | some s=>s.y9 (fun b=>decide (b<r.nx.length)) | none=>true))))&&
   (r.nx.drop r.mem.length).all fun s=>gm s&&s.y9 (fun b=>decide (b<r.nx.length))))&&jN bs (j+1) ((j,r)::acc) rest):=rfl
theorem Kj(f:Nat→Bool)(s:aeD)(new:Mem)(M:Mem)(k:Nat):aZ [k] 0 M ((bp f 0 M).set k s++new)=M.set k s++new:=by
 have key:∀(i:Nat) (M:Mem) (k:Nat),aZ [i+k] i M ((bp f i M).set k s++new)=M.set k s++new:=by
  intro i M;induction M generalizing i with
  |nil=>intro k;rfl
  |cons x M ih=>
   intro k;cases k with
   |zero=>
    have h:∀(j:Nat) (M:Mem),i<j→aZ [i] j M (bp f j M++new)=M++new:=by
     intro j M hj;induction M generalizing j with
     |nil=>rfl
     |cons y M ih=>simp[bp,aZ,ih (j+1) (by omega),show¬j=i by omega]
    simp[bp,aZ,h (i+1) M (by omega)]
   |succ k=>
    have:=ih (i+1) k;rw[show i+1+k=i+(k+1) by omega] at this;simp[bp,aZ,this,show¬i=i+(k+1) by omega]
 have:=key 0 M k
 rwa [Nat.zero_add] at this
theorem vS:((∀a,(AV.str a).known=true)∧(∀k i,(AV.int k i).known=true)∧(∀b o n c,(AV.slice b o n c).known=true)∧AV.kK.known=true∧(∀b o,(AV.ptr b o).known=true)∧(∀cs,(AV.agg cs).known=true))∧
  ((∀a,(AV.str a).cells=[.str a])∧(∀k i,(AV.int k i).cells=[.int k i])∧(∀b o n c,(AV.slice b o n c).cells=[.slice b o n c])∧AV.kK.cells=[.kK]∧(∀b o,(AV.ptr b o).cells=[.ptr b o])∧∀cs,(AV.agg cs).cells=cs)∧
  ((∀b o n c,(AV.slice b o n c).kS=true)∧(∀a,(AV.str a).kS=true)∧(∀k i,(AV.int k i).kS=true)∧(∀b,(AV.bool b).kS=true)∧AV.kK.kS=true∧∀b o,(AV.ptr b o).kS=true):=
 ⟨⟨fun _=>rfl,fun _ _=>rfl,fun _ _ _ _=>rfl,rfl,fun _ _=>rfl,fun _=>rfl⟩,⟨fun _=>rfl,fun _ _=>rfl,fun _ _ _ _=>rfl,rfl,fun _ _=>rfl,fun _=>rfl⟩,⟨fun _ _ _ _=>rfl,fun _=>rfl,fun _ _=>rfl,fun _=>rfl,rfl,fun _ _=>rfl⟩⟩
theorem wQ(f:Nat→Bool)(a:List UInt8):(AV.str a).y9 f=true:=rfl
theorem wU(f:Nat→Bool):aeD.y9 f .kO=true:=rfl
theorem rS(f:Nat→Bool):AV.kK.y9 f=true∧(∀b o n c,(AV.slice b o n c).y9 f=f b)∧(∀b o,(AV.ptr b o).y9 f=f b)∧(∀a,(AV.str a).y9 f=true)∧(∀k i,(AV.int k i).y9 f=true)∧(∀b,(AV.bool b).y9 f=true)∧(∀cs,(AV.agg cs).y9 f=AV.aeB f cs)∧(∀cs,(AV.tuple cs).y9 f=AV.aeB f cs)∧AV.undef.y9 f=true∧
  aeD.y9 f .kO=true∧(∀o es cs,aeD.y9 f (.cells o es cs)=AV.aeB f cs):=⟨rfl,fun _ _ _ _=>rfl,fun _ _=>rfl,fun _=>rfl,fun _ _=>rfl,fun _=>rfl,fun _=>rfl,fun _=>rfl,rfl,rfl,fun _ _ _=>rfl⟩
theorem mS:((∀(M X:Mem) k,(M++X)[M.length+k]? =X[k]?)∧(∀M X:Mem,(M++X)[M.length]? =X[0]?)∧(∀(M X:Mem) k s,(M++X).set (M.length+k) s=M++X.set k s)∧(∀(M X:Mem) s,(M++X).set M.length s=M++X.set 0 s)∧(∀(M X:Mem) k,(M++X).drop (M.length+k)=X.drop k)∧(∀M X:Mem,(M++X).drop M.length=X))∧
  ((∀(α:Type) (s:α) l,(s::l)[0]? =some s)∧(∀(α:Type) (s:α) l (i:Nat),(s::l)[i+1]? =l[i]?))∧((∀es cs,gm (.cells true es cs)=true)∧gm .kO=true)∧
  ((∀f i M,aZ [] i M (bp f i M)=M)∧(∀i M,aZ [] i M M=M)∧(∀f new i M,aZ [] i M (bp f i M++new)=M++new)∧(∀new i M,aZ [] i M (M++new)=M++new)∧(∀f s M k,aZ [k] 0 M ((bp f 0 M).set k s)=M.set k s)∧(∀f s new M k,aZ [k] 0 M ((bp f 0 M).set k s++new)=M.set k s++new)∧(∀wr i M,aZ wr i [] M=M)∧(∀i s s' r r',aZ [] i (s::r) (s' ::r')=s::aZ [] (i+1) r r')∧(∀i N X Y,aZ [] i (N++X) (N++Y)=N++aZ [] (i+N.length) X Y))∧
  ((∀f i M b,(bp f i M)[b]? =(M[b]?).map fun s=>if f (i+b) then s else .kO)∧(∀i M,bp (fun _=>true) i M=M)∧(∀f i M,(bp f i M).length=M.length)∧(∀M lo n,(((bp (fun _=>false) 0 M).drop lo).take n).all oU=true)∧(∀a b:Nat,(a≤b∧b<a)=False)∧(∀a b:Nat,(!decide (a≤b)|| !decide (b<a))=true))∧
  ((∀b o n c,bk (.slice b o n c)=[b])∧bk .kK=[])∧(∀bs j acc,jN bs j acc []=true):=
 ⟨⟨dC,tO,Bb,UL,VU,Uv⟩,⟨fun _ _ _=>rfl,fun _ _ _ _=>rfl⟩,⟨fun _ _=>rfl,rfl⟩,⟨vg,xy,Bd,xx,Kh,Kj,fun _ _ _=>rfl,vf,Be⟩,⟨tN,Dt,Du,MB,Mz,PJ⟩,⟨fun _ _ _ _=>rfl,rfl⟩,fun _ _ _=>rfl⟩
theorem aeJ.refs{N:Mem}{v:AV}{es n:Nat}{C:List AV}(h:aeJ N v es n C)(j:Nat):AV.y9 (fun a=>decide (a<N.length+j)) v=true:=by
 rcases h with⟨rfl,_,_⟩ | ⟨b,o,rfl,_,hb⟩
 ·rfl
 ·have:=(gL hb)
  simp only[AV.y9,decide_eq_true_eq];omega
theorem aeJ.off{N:Mem}{v:AV}{es n:Nat}{C:List AV}(h:aeJ N v es n C)(j k:Nat):AV.y9 (fun b=> !decide (N.length+j≤b)|| !decide (b<N.length+k)) v=true:=AV.aeH (fun b hb=>by
 simp only[decide_eq_true_eq] at hb;have:¬N.length+j≤b:=by omega
 simp[this]) v (h.refs 0)
theorem JL(L n:Nat):(clV L n).known=true:=by unfold clV;split<;>rfl
theorem JK(L n:Nat):(clV L n).cells=[clV L n]:=by unfold clV;split<;>rfl
theorem dm{L n j:Nat}(h:L+2≤j):AV.y9 (fun a=>decide (a<j)) (clV L n)=true:=Up (by omega)
theorem Db(n:Nat)(L:List (List UInt8))(f:Nat→Bool):(clX 1 n (stC L)).y9 f=true:=q9 (fun f=>Td f _) f
theorem RN(n:Nat)(L:List (List UInt8×List UInt8))(f:Nat→Bool):(clX 2 n (kC L)).y9 f=true:=q9 (fun f=>V6 f _) f
def agi:=bj (rfl:aG f38=_) (ls:=[[0,1,3,7,0,16,48,127,15,271,1023,2047,4095,8191],[0,1,3,7,0,16,48,127,127,383,1023,2047,4095,8191]]) (by kernel_rfl)
variable{D1:List AV}{R:aeD}{b kn l u:AV}{d o1:Bool}{z':Env}{w wi:Code}
theorem Qu{N N2:Mem}{n i K m0 m1 kc b1:Nat}{pv tv:AV}(A':i<n)(hn:n≤10)(hl:l=.slice b1 0 n none)(abd:N[b1]? =some (.cells o1 32 D1))(hD:(D1.drop (i*32)).take 32=c.cells b u .kK kn)(hD2:i*32+32≤D1.length)(hkc:kc<N.length)(Yt:m0≤kc)(XR:N[kc]? =some (.cells true 0 [pv,tv,.str ar,E]))(Yv:N2.length=N.length∧N2[kc]? =some (.cells true 0 [pv,tv,.str ar,E]))(hB:aeJ N b 1 c.B.length (stC c.B))(hU:aeJ N u 1 c.U.length (stC c.U))(hK:aeJ N kn 2 c.K.length (kC c.K))(hc:c.Ok)(cE:E.kS=true)(cpv:pv.kS=true)(ctv:tv.kS=true)(hwr:(bk E).any (fun b=>decide (b<m0))=false)(ZS:dy (aM prog) (N++[.cells true 0 (c.cells (clV (N.length+1) c.B.length) (clV (N.length+3) c.U.length) .kK (clV (N.length+5) c.K.length)),.kO,clX 1 c.B.length (stC c.B),.kO,clX 1 c.U.length (stC c.U),.kO,clX 2 c.K.length (kC c.K),.cells true 32 (c.cells (clV (N.length+1) c.B.length) (clV (N.length+3) c.U.length) .kK (clV (N.length+5) c.K.length))]) 38 38 E (.slice (N.length+7) 0 1 none)=some (.slice (N.length+8) 0 (i+1) none,N2++[.cells true 0 (c.cells (clV (N.length+1) c.B.length) (clV (N.length+3) c.U.length) .kK (clV (N.length+5) c.K.length)),.kO,clX 1 c.B.length (stC c.B),.kO,clX 1 c.U.length (stC c.U),.kO,clX 2 c.K.length (kC c.K),.cells true 32 (c.cells (clV (N.length+1) c.B.length) (clV (N.length+3) c.U.length) .kK (clV (N.length+5) c.K.length)),R]))(hb:ai f38=[w,wi])(h26:ab z' 26=l)(h27:ab z' 27=.int .i64 n)(h5:ab z' 5=.ptr kc 0):
  ∃s',aN (aM prog) fW (gC dD) (K+4) 75 m0 true w ⟨aD [28,28,28] (aa w) z' ((28,.int .i64 (i:Int))::z'),N,d⟩=some (.normal,s')∧iV [28,28,28] (aa w) z' m1 s' =⟨aD [28,28,28] (aa w) z' ((28,.int .i64 ((i+1:Nat):Int))::z'),N2.set kc (.cells true 0 [pv,tv,.str ar,.slice (N.length+8) 0 (i+1) none])++[.cells true 0 (c.cells (clV (N.length+1) c.B.length) (clV (N.length+3) c.U.length) .kK (clV (N.length+5) c.K.length)),.kO,clX 1 c.B.length (stC c.B),.kO,clX 1 c.U.length (stC c.U),.kO,clX 2 c.K.length (kC c.K),.cells true 32 (c.cells (clV (N.length+1) c.B.length) (clV (N.length+3) c.U.length) .kK (clV (N.length+5) c.K.length)),R],d⟩:=by
 have XU :=agi;simp only[aG,bF,f38,List.nil_append,List.append_nil,List.cons_append,List.map_cons,List.map_nil,List.cons.injEq,and_true] at XU;obtain⟨_,hb1⟩:=XU;simp[ai,aK,f38] at hb;obtain⟨hb,_⟩:=hb;have w1:IntKind.i64.wrap ((i:Int)+1)=((i+1:Nat):Int):=by rw[al (by omega) (by omega)];omega
 have wz1:IntKind.i64.wrap 1=1:=rfl;have wz2:IntKind.i64.wrap 2=2:=rfl;have Yj:∀j,(N.length+j<m0)=False:=fun j=>by rw[eq_iff_iff,iff_false];omega
 have YJ:(N.length<m0)=False:=by rw[eq_iff_iff,iff_false];omega
 have hc2:∀Z,(N2++Z)[kc]? =some (.cells true 0 [pv,tv,.str ar,E]):=fun Z=>by rw[List.getElem?_append_left (gL Yv.2)];exact Yv.2
 have hc1:∀Z,(N++Z)[kc]? =some (.cells true 0 [pv,tv,.str ar,E]):=fun Z=>by rw[List.getElem?_append_left hkc];exact XR
 have ZC:∀Z s,(N2++Z).set kc s=N2.set kc s++Z:=fun Z s=>List.set_append_left _ _ (by rw[Yv.1];exact hkc)
 have aas:=Yv.1;have hkm:¬kc<m0:=by omega
 have eB:=fun Z=>qR (hB.more Z) (by rw[bU,Nat.mul_one]) hc.B (ow _)
 have eU:=fun Z=>zN (hU.more Z) (by rw[bU,Nat.mul_one]) hc.U (ow _)
 have eK:=fun Z=>Ec (hK.more Z) (by rw[fF,Nat.mul_comm]) hc.K (J8 _)
 obtain⟨O,hO⟩:∃O,O=gC dD:=⟨_,rfl⟩
 rw[←hO];simp only[←hO] at eB eU eK;simp only[Evc.cells] at hD ZS;subst hb;subst hl;simp[-getElem?_pos,-AV.kS,-AV.known,-AV.cells,-bk,-bp,-aZ,-aE,-AV.y9,-aeD.y9,-List.all_eq_true,vS,rS,mS,fq,aY hb1,cO,cd,fz,cY,bW,iT,bef,Nat.testBit,-dy,Evc.cells,jG,JL,JK,dm,mI,Db,h26,h27,h5,A',abd,hD,hD2,hc1,hc2,ZC,hkm,eB,eU,eK,ZS,hwr,w1,YJ,aI,ej,fW,hB.ck,hB.refs,hU.ck,hU.refs,hU.off,hK.ck,hK.refs]
variable{L1:List (List UInt8)}{os:Bool}{v1:AV}
theorem Qv{N N2:Mem}{n i K m0 m1 kc b1 bs:Nat}{pv tv:AV}(A':i<n)(hn:n≤10)(hl:l=.slice b1 0 n none)(abd:N[b1]? =some (.cells o1 32 D1))(hD:(D1.drop (i*32)).take 32=c.cells b u (.slice bs 0 1 none) kn)(hD2:i*32+32≤D1.length)(hkc:kc<N.length)(Yt:m0≤kc)(XR:N[kc]? =some (.cells true 0 [pv,tv,.str ar,E]))(Yv:N2.length=N.length∧N2[kc]? =some (.cells true 0 [pv,tv,.str ar,E]))(hB:aeJ N b 1 c.B.length (stC c.B))(hU:aeJ N u 1 c.U.length (stC c.U))(hK:aeJ N kn 2 c.K.length (kC c.K))(hc:c.Ok)(hV1:aeJ N v1 1 L1.length (stC L1))(hL1:L1.length≤1000)(IR:N[bs]? =some (.cells os 1 [v1]))(cE:E.kS=true)(cpv:pv.kS=true)(ctv:tv.kS=true)(hwr:(bk E).any (fun b=>decide (b<m0))=false)(ZS:dy (aM prog) (N++[.cells true 0 (c.cells (clV (N.length+1) c.B.length) (clV (N.length+3) c.U.length) (.slice (N.length+8) 0 1 none) (clV (N.length+9) c.K.length)),.kO,clX 1 c.B.length (stC c.B),.kO,clX 1 c.U.length (stC c.U),.kO,clX 1 L1.length (stC L1),.cells true 1 [clV (N.length+5) L1.length],.cells true 1 [clV (N.length+5) L1.length],.kO,clX 2 c.K.length (kC c.K),.cells true 32 (c.cells (clV (N.length+1) c.B.length) (clV (N.length+3) c.U.length) (.slice (N.length+8) 0 1 none) (clV (N.length+9) c.K.length))]) 38 38 E (.slice (N.length+11) 0 1 none)=some (.slice (N.length+12) 0 (i+1) none,N2++[.cells true 0 (c.cells (clV (N.length+1) c.B.length) (clV (N.length+3) c.U.length) (.slice (N.length+8) 0 1 none) (clV (N.length+9) c.K.length)),.kO,clX 1 c.B.length (stC c.B),.kO,clX 1 c.U.length (stC c.U),.kO,clX 1 L1.length (stC L1),.cells true 1 [clV (N.length+5) L1.length],.cells true 1 [clV (N.length+5) L1.length],.kO,clX 2 c.K.length (kC c.K),.cells true 32 (c.cells (clV (N.length+1) c.B.length) (clV (N.length+3) c.U.length) (.slice (N.length+8) 0 1 none) (clV (N.length+9) c.K.length)),R]))(hb:ai f38=[w,wi])(h26:ab z' 26=l)(h27:ab z' 27=.int .i64 n)(h5:ab z' 5=.ptr kc 0):
  ∃s',aN (aM prog) fW (gC dD) (K+4) 75 m0 true w ⟨aD [28,28,28] (aa w) z' ((28,.int .i64 (i:Int))::z'),N,d⟩=some (.normal,s')∧iV [28,28,28] (aa w) z' m1 s' =⟨aD [28,28,28] (aa w) z' ((28,.int .i64 ((i+1:Nat):Int))::z'),N2.set kc (.cells true 0 [pv,tv,.str ar,.slice (N.length+12) 0 (i+1) none])++[.cells true 0 (c.cells (clV (N.length+1) c.B.length) (clV (N.length+3) c.U.length) (.slice (N.length+8) 0 1 none) (clV (N.length+9) c.K.length)),.kO,clX 1 c.B.length (stC c.B),.kO,clX 1 c.U.length (stC c.U),.kO,clX 1 L1.length (stC L1),.cells true 1 [clV (N.length+5) L1.length],.cells true 1 [clV (N.length+5) L1.length],.kO,clX 2 c.K.length (kC c.K),.cells true 32 (c.cells (clV (N.length+1) c.B.length) (clV (N.length+3) c.U.length) (.slice (N.length+8) 0 1 none) (clV (N.length+9) c.K.length)),R],d⟩:=by
 have XU :=agi;simp only[aG,bF,f38,List.nil_append,List.append_nil,List.cons_append,List.map_cons,List.map_nil,List.cons.injEq,and_true] at XU;obtain⟨_,hb1⟩:=XU;simp[ai,aK,f38] at hb;obtain⟨hb,_⟩:=hb;have w1:IntKind.i64.wrap ((i:Int)+1)=((i+1:Nat):Int):=by rw[al (by omega) (by omega)];omega
 have wz1:IntKind.i64.wrap 1=1:=rfl;have wz2:IntKind.i64.wrap 2=2:=rfl;have Yj:∀j,(N.length+j<m0)=False:=fun j=>by rw[eq_iff_iff,iff_false];omega
 have YJ:(N.length<m0)=False:=by rw[eq_iff_iff,iff_false];omega
 have hc2:∀Z,(N2++Z)[kc]? =some (.cells true 0 [pv,tv,.str ar,E]):=fun Z=>by rw[List.getElem?_append_left (gL Yv.2)];exact Yv.2
 have hc1:∀Z,(N++Z)[kc]? =some (.cells true 0 [pv,tv,.str ar,E]):=fun Z=>by rw[List.getElem?_append_left hkc];exact XR
 have ZC:∀Z s,(N2++Z).set kc s=N2.set kc s++Z:=fun Z s=>List.set_append_left _ _ (by rw[Yv.1];exact hkc)
 have aas:=Yv.1;have hkm:¬kc<m0:=by omega
 have eB:=fun Z=>qR (hB.more Z) (by rw[bU,Nat.mul_one]) hc.B (ow _)
 have eU:=fun Z=>zN (hU.more Z) (by rw[bU,Nat.mul_one]) hc.U (ow _)
 have eK:=fun Z=>Ec (hK.more Z) (by rw[fF,Nat.mul_comm]) hc.K (J8 _)
 have e1:=fun Z=>qR (hV1.more Z) (by rw[bU,Nat.mul_one]) hL1 (ow _)
 have ab2:∀Z,(N++Z)[bs]? =some (.cells os 1 [v1]):=fun Z=>by rw[List.getElem?_append_left (gL IR)];exact IR
 have lbs:=(gL IR);have ab3:∀j,(bs<N.length+j)=True:=fun j=>by rw[eq_iff_iff,iff_true];omega
 have ap1:dy (aM prog) (N++[.cells true 0 (c.cells (clV (N.length+1) c.B.length) (clV (N.length+3) c.U.length) (.slice bs 0 1 none) kn),.kO,clX 1 c.B.length (stC c.B),.kO,clX 1 c.U.length (stC c.U),.kO,clX 1 L1.length (stC L1),.cells true 1 [clV (N.length+5) L1.length]]) 67 67 .kK (.slice (N.length+7) 0 1 none)=some (.slice (N.length+8) 0 1 none,N++[.cells true 0 (c.cells (clV (N.length+1) c.B.length) (clV (N.length+3) c.U.length) (.slice bs 0 1 none) kn),.kO,clX 1 c.B.length (stC c.B),.kO,clX 1 c.U.length (stC c.U),.kO,clX 1 L1.length (stC L1),.cells true 1 [clV (N.length+5) L1.length],.cells true 1 [clV (N.length+5) L1.length]]):=by simp[-AV.kS,-AV.known,-AV.cells,jG,om]
 obtain⟨O,hO⟩:∃O,O=gC dD:=⟨_,rfl⟩
 rw[←hO];simp only[←hO] at eB eU eK e1;simp only[Evc.cells] at hD ZS ap1;subst hb;subst hl;simp[-getElem?_pos,-AV.kS,-AV.known,-AV.cells,-bk,-bp,-aZ,-aE,-AV.y9,-aeD.y9,-List.all_eq_true,vS,rS,mS,fq,aY hb1,cO,cd,fz,cY,bW,iT,bef,Nat.testBit,-dy,Evc.cells,jG,JL,JK,dm,mI,Db,h26,h27,h5,A',abd,hD,hD2,hc1,hc2,ZC,hkm,eB,eU,eK,e1,ap1,ab2,ab3,ZS,hwr,w1,wz1,YJ,aI,ej,fW,hB.ck,hB.refs,hU.ck,hU.refs,hU.off,hK.ck,hK.refs]
theorem Qw{N N2:Mem}{n i K m0 m1 kc b1 bs:Nat}{pv tv v2:AV}{L2:List (List UInt8)}(A':i<n)(hn:n≤10)(hl:l=.slice b1 0 n none)(abd:N[b1]? =some (.cells o1 32 D1))(hD:(D1.drop (i*32)).take 32=c.cells b u (.slice bs 0 2 none) kn)(hD2:i*32+32≤D1.length)(hkc:kc<N.length)(Yt:m0≤kc)(XR:N[kc]? =some (.cells true 0 [pv,tv,.str ar,E]))(Yv:N2.length=N.length∧N2[kc]? =some (.cells true 0 [pv,tv,.str ar,E]))(hB:aeJ N b 1 c.B.length (stC c.B))(hU:aeJ N u 1 c.U.length (stC c.U))(hK:aeJ N kn 2 c.K.length (kC c.K))(hc:c.Ok)(hV1:aeJ N v1 1 L1.length (stC L1))(hL1:L1.length≤1000)(hV2:aeJ N v2 1 L2.length (stC L2))(hL2:L2.length≤1000)(IR:N[bs]? =some (.cells os 1 [v1,v2]))(cE:E.kS=true)(cpv:pv.kS=true)(ctv:tv.kS=true)(hwr:(bk E).any (fun b=>decide (b<m0))=false)(ZS:dy (aM prog) (N++[.cells true 0 (c.cells (clV (N.length+1) c.B.length) (clV (N.length+3) c.U.length) (.slice (N.length+12) 0 2 none) (clV (N.length+13) c.K.length)),.kO,clX 1 c.B.length (stC c.B),.kO,clX 1 c.U.length (stC c.U),.kO,clX 1 L1.length (stC L1),.cells true 1 [clV (N.length+5) L1.length],.kO,.kO,clX 1 L2.length (stC L2),.cells true 1 [clV (N.length+9) L2.length],.cells true 1 [clV (N.length+5) L1.length,clV (N.length+9) L2.length],.kO,clX 2 c.K.length (kC c.K),.cells true 32 (c.cells (clV (N.length+1) c.B.length) (clV (N.length+3) c.U.length) (.slice (N.length+12) 0 2 none) (clV (N.length+13) c.K.length))]) 38 38 E (.slice (N.length+15) 0 1 none)=some (.slice (N.length+16) 0 (i+1) none,N2++[.cells true 0 (c.cells (clV (N.length+1) c.B.length) (clV (N.length+3) c.U.length) (.slice (N.length+12) 0 2 none) (clV (N.length+13) c.K.length)),.kO,clX 1 c.B.length (stC c.B),.kO,clX 1 c.U.length (stC c.U),.kO,clX 1 L1.length (stC L1),.cells true 1 [clV (N.length+5) L1.length],.kO,.kO,clX 1 L2.length (stC L2),.cells true 1 [clV (N.length+9) L2.length],.cells true 1 [clV (N.length+5) L1.length,clV (N.length+9) L2.length],.kO,clX 2 c.K.length (kC c.K),.cells true 32 (c.cells (clV (N.length+1) c.B.length) (clV (N.length+3) c.U.length) (.slice (N.length+12) 0 2 none) (clV (N.length+13) c.K.length)),R]))(hb:ai f38=[w,wi])(h26:ab z' 26=l)(h27:ab z' 27=.int .i64 n)(h5:ab z' 5=.ptr kc 0):
  ∃s',aN (aM prog) fW (gC dD) (K+4) 75 m0 true w ⟨aD [28,28,28] (aa w) z' ((28,.int .i64 (i:Int))::z'),N,d⟩=some (.normal,s')∧iV [28,28,28] (aa w) z' m1 s' =⟨aD [28,28,28] (aa w) z' ((28,.int .i64 ((i+1:Nat):Int))::z'),N2.set kc (.cells true 0 [pv,tv,.str ar,.slice (N.length+16) 0 (i+1) none])++[.cells true 0 (c.cells (clV (N.length+1) c.B.length) (clV (N.length+3) c.U.length) (.slice (N.length+12) 0 2 none) (clV (N.length+13) c.K.length)),.kO,clX 1 c.B.length (stC c.B),.kO,clX 1 c.U.length (stC c.U),.kO,clX 1 L1.length (stC L1),.cells true 1 [clV (N.length+5) L1.length],.kO,.kO,clX 1 L2.length (stC L2),.cells true 1 [clV (N.length+9) L2.length],.cells true 1 [clV (N.length+5) L1.length,clV (N.length+9) L2.length],.kO,clX 2 c.K.length (kC c.K),.cells true 32 (c.cells (clV (N.length+1) c.B.length) (clV (N.length+3) c.U.length) (.slice (N.length+12) 0 2 none) (clV (N.length+13) c.K.length)),R],d⟩:=by
 have XU :=agi;simp only[aG,bF,f38,List.nil_append,List.append_nil,List.cons_append,List.map_cons,List.map_nil,List.cons.injEq,and_true] at XU;obtain⟨_,hb1⟩:=XU;simp[ai,aK,f38] at hb;obtain⟨hb,_⟩:=hb;have w1:IntKind.i64.wrap ((i:Int)+1)=((i+1:Nat):Int):=by rw[al (by omega) (by omega)];omega
 have wz1:IntKind.i64.wrap 1=1:=rfl;have wz2:IntKind.i64.wrap 2=2:=rfl;have Yj:∀j,(N.length+j<m0)=False:=fun j=>by rw[eq_iff_iff,iff_false];omega
 have YJ:(N.length<m0)=False:=by rw[eq_iff_iff,iff_false];omega
 have hc2:∀Z,(N2++Z)[kc]? =some (.cells true 0 [pv,tv,.str ar,E]):=fun Z=>by rw[List.getElem?_append_left (gL Yv.2)];exact Yv.2
 have hc1:∀Z,(N++Z)[kc]? =some (.cells true 0 [pv,tv,.str ar,E]):=fun Z=>by rw[List.getElem?_append_left hkc];exact XR
 have ZC:∀Z s,(N2++Z).set kc s=N2.set kc s++Z:=fun Z s=>List.set_append_left _ _ (by rw[Yv.1];exact hkc)
 have aas:=Yv.1;have hkm:¬kc<m0:=by omega
 have eB:=fun Z=>qR (hB.more Z) (by rw[bU,Nat.mul_one]) hc.B (ow _)
 have eU:=fun Z=>zN (hU.more Z) (by rw[bU,Nat.mul_one]) hc.U (ow _)
 have eK:=fun Z=>Ec (hK.more Z) (by rw[fF,Nat.mul_comm]) hc.K (J8 _)
 have e1:=fun Z=>qR (hV1.more Z) (by rw[bU,Nat.mul_one]) hL1 (ow _)
 have e2:=fun Z=>qR (hV2.more Z) (by rw[bU,Nat.mul_one]) hL2 (ow _)
 have ab2:∀Z,(N++Z)[bs]? =some (.cells os 1 [v1,v2]):=fun Z=>by rw[List.getElem?_append_left (gL IR)];exact IR
 have lbs:=(gL IR);have ab3:∀j,(bs<N.length+j)=True:=fun j=>by rw[eq_iff_iff,iff_true];omega
 have ap1:dy (aM prog) (N++[.cells true 0 (c.cells (clV (N.length+1) c.B.length) (clV (N.length+3) c.U.length) (.slice bs 0 2 none) kn),.kO,clX 1 c.B.length (stC c.B),.kO,clX 1 c.U.length (stC c.U),.kO,clX 1 L1.length (stC L1),.cells true 1 [clV (N.length+5) L1.length]]) 67 67 .kK (.slice (N.length+7) 0 1 none)=some (.slice (N.length+8) 0 1 none,N++[.cells true 0 (c.cells (clV (N.length+1) c.B.length) (clV (N.length+3) c.U.length) (.slice bs 0 2 none) kn),.kO,clX 1 c.B.length (stC c.B),.kO,clX 1 c.U.length (stC c.U),.kO,clX 1 L1.length (stC L1),.cells true 1 [clV (N.length+5) L1.length],.cells true 1 [clV (N.length+5) L1.length]]):=by simp[-AV.kS,-AV.known,-AV.cells,jG,om]
 have ap2:dy (aM prog) (N++[.cells true 0 (c.cells (clV (N.length+1) c.B.length) (clV (N.length+3) c.U.length) (.slice bs 0 2 none) kn),.kO,clX 1 c.B.length (stC c.B),.kO,clX 1 c.U.length (stC c.U),.kO,clX 1 L1.length (stC L1),.cells true 1 [clV (N.length+5) L1.length],.cells true 1 [clV (N.length+5) L1.length],.kO,clX 1 L2.length (stC L2),.cells true 1 [clV (N.length+9) L2.length]]) 67 67 (.slice (N.length+8) 0 1 none) (.slice (N.length+11) 0 1 none)=some (.slice (N.length+12) 0 2 none,N++[.cells true 0 (c.cells (clV (N.length+1) c.B.length) (clV (N.length+3) c.U.length) (.slice bs 0 2 none) kn),.kO,clX 1 c.B.length (stC c.B),.kO,clX 1 c.U.length (stC c.U),.kO,clX 1 L1.length (stC L1),.cells true 1 [clV (N.length+5) L1.length],.kO,.kO,clX 1 L2.length (stC L2),.cells true 1 [clV (N.length+9) L2.length],.cells true 1 [clV (N.length+5) L1.length,clV (N.length+9) L2.length]]):=by simp[-AV.kS,-AV.known,-AV.cells,jG,om]
 obtain⟨O,hO⟩:∃O,O=gC dD:=⟨_,rfl⟩
 rw[←hO];simp only[←hO] at eB eU eK e1 e2;simp only[Evc.cells] at hD ZS ap1 ap2;subst hb;subst hl;simp[-getElem?_pos,-AV.kS,-AV.known,-AV.cells,-bk,-bp,-aZ,-aE,-AV.y9,-aeD.y9,-List.all_eq_true,vS,rS,mS,fq,aY hb1,cO,cd,fz,cY,bW,iT,bef,Nat.testBit,-dy,Evc.cells,jG,JL,JK,dm,mI,Db,h26,h27,h5,A',abd,hD,hD2,hc1,hc2,ZC,hkm,eB,eU,eK,e1,e2,ap1,ap2,ab2,ab3,ZS,hwr,w1,wz1,wz2,Yj,YJ,aI,ej,fW,hB.ck,hB.refs,hU.ck,hU.refs,hU.off,hK.ck,hK.refs]
theorem oz{n:Nat}{L:List (List UInt8)}(h:L.length=n):n=0→stC L=[]:=fun e=>by have:L=[]:=List.eq_nil_of_length_eq_zero (by omega);rw[this];rfl
theorem Sh{n:Nat}{L:List (List UInt8×List UInt8)}(h:L.length=n):n=0→kC L=[]:=fun e=>by have:L=[]:=List.eq_nil_of_length_eq_zero (by omega);rw[this];rfl
theorem B6{N:Mem}{q:Nat}{N2:Mem}(hq:N[q]? =some (.cells true 32 e))(he:e.length=32)(Zf:e.all AV.kS=true)(hi:i≤10)(hl:evs.flatten.length=i*32)(hE:(i=0∧E=.kK∧N2=N)∨∃kr,E=.slice kr 0 i none∧0<i∧N[kr]? =some (.cells true 32 evs.flatten)∧N2=N.set kr .kO):
  dy (aM prog) N 38 38 E (.slice q 0 1 none)=some (.slice N.length 0 (i+1) none,N2++[.cells true 32 (evs.flatten++e)]):=by
 have hs:fA (aM prog) N 32 38 (.slice q 0 1 none)=some (1,e):=by have:e.take 32=e:=List.take_of_length_le (by omega);simp[fA,hq,he,this]
 rcases hE with⟨rfl,rfl,rfl⟩ | ⟨kr,rfl,h0,hr,rfl⟩
 ·have:evs.flatten=[]:=List.eq_nil_of_length_eq_zero (by omega)
  rw[this];simp[-fA,-List.all_eq_true,-AV.kS,dy,hs,Zf,tW,om]
 ·have h1:(i+1)*504≤140737488355328:=by omega
  have h2:i+1≤140737488355328:=by omega
  have h3:evs.flatten.take (i*32)=evs.flatten:=List.take_of_length_le (by omega);have h4:i*32≤evs.flatten.length:=by omega
  obtain⟨Fl,hFl⟩:∃Fl,Fl=evs.flatten:=⟨_,rfl⟩
  rw[←hFl] at hr h3 h4 ⊢;simp[-fA,-List.all_eq_true,-AV.kS,dy,hs,Zf,hr,h1,h2,h3,h4,tW,om]
variable{s:AV}
theorem Evc.all(c:Evc)(hb:b.kS=true)(hu:u.kS=true)(hs:s.kS=true)(hk:kn.kS=true):(c.cells b u s kn).all AV.kS=true:=by simp only[Evc.cells,List.all_cons,List.all_nil,hb,hu,hs,hk];rfl
theorem Evc.aeR(c:Evc){f:Nat→Bool}(hb:b.y9 f=true)(hu:u.y9 f=true)(hs:s.y9 f=true)(hk:kn.y9 f=true):AV.aeB f (c.cells b u s kn)=true:=by simp only[Evc.cells,AV.aeB,AV.y9,hb,hu,hs,hk,Bool.and_self]
theorem afi.refs{N:Mem}(h:afi N e c)(j:Nat):AV.aeB (fun a=>decide (a<N.length+j)) e=true:=by obtain⟨b,u,s,kn,rfl,h1,h2,⟨_,_,h3,_⟩,h4⟩:=h;exact c.aeR (h1.refs j) (h2.refs j) (h3.refs j) (h4.refs j)
theorem qM{f:Nat→Bool}:∀{evs:List (List AV)},(∀e∈evs,AV.aeB f e=true)→AV.aeB f evs.flatten=true
 | [],_=>rfl
 |e::l,h=>by rw[List.flatten_cons,ef,h e (by simp),qM (fun x hx=>h x (by simp[hx]))];rfl
variable{N0:Mem}{bi:Code}
theorem Gu{M:Mem}(H:Qg M l cs)(XW:∀c∈cs,c.Ok)(abe:cs.length≤10){pv tv:AV}(Y4:∃Y,N0=M++Y)(hkM:M.length≤kc)(hk0:kc<N0.length)(cpv:pv.kS=true)(ctv:tv.kS=true){N:Mem}{K m1:Nat}(I:CpI N0 kc pv tv cs N i E evs)(A':i<cs.length){b:Code}(hb:ai f38=[b,bi])(h26:ab z' 26=l)(h27:ab z' 27=.int .i64 cs.length)(h5:ab z' 5=.ptr kc 0):
  ∃N' E' aaj s',aN (aM prog) fW (gC dD) (K+4) 75 M.length true b ⟨aD [28,28,28] (aa b) z' ((28,.int .i64 (i:Int))::z'),N,d⟩=some (.normal,s')∧iV [28,28,28] (aa b) z' m1 s' =⟨aD [28,28,28] (aa b) z' ((28,.int .i64 ((i+1:Nat):Int))::z'),N',d⟩∧CpI N0 kc pv tv cs N' (i+1) E' aaj :=by
 obtain⟨ag0,l1,r1,c1⟩:=H;obtain⟨Y,rfl⟩:=Y4;obtain⟨e,he⟩:∃e,ag0[i]? =some e:=⟨_,List.getElem?_eq_getElem (by omega)⟩
 obtain⟨c,hc⟩:∃c,cs[i]? =some c:=⟨_,List.getElem?_eq_getElem A'⟩
 have hco:=XW c (List.mem_of_getElem? hc);have X9:∀(k:Nat) x,ag0[k]? =some x→x.length=32:=fun k x hx=>by have:=(gL hx);exact(c1 k x _ hx (List.getElem?_eq_getElem (by omega))).l32
 have heN:afi N e c:=((c1 i e c he hc).more Y).upd I.afq;have hll:=I.len;have hkN:kc<N.length:=by omega
 have ckE:E.kS=true:=by rcases I.row with⟨_,rfl⟩ | ⟨kr,rfl,_⟩<;>rfl
 have hwr:(bk E).any (fun b=>decide (b<M.length))=false:=by
  rcases I.row with⟨_,rfl⟩ | ⟨kr,rfl,_,hk,_⟩
  ·rfl
  ·simp only[List.length_append] at hk
   simp[bk];omega
 have aaF:∀x∈evs,x.length=32:=fun x hx=>by obtain⟨k,hk⟩:=List.getElem?_of_mem hx;have h1:=(gL hk);rw[I.evl] at h1;exact(I.con k x _ hk (List.getElem?_eq_getElem (by omega))).l32
 have hfl:evs.flatten.length=i*32:=by rw[Np aaF,I.evl]
 obtain⟨b1,o1,D1,YQ,hb1,hD,hD2⟩:∃(b1:Nat) (o1:Bool) (D1:List AV),l=.slice b1 0 cs.length none∧N[b1]? =some (.cells o1 32 D1)∧(D1.drop (i*32)).take 32=e∧i*32+32≤D1.length:=by
  rcases r1 with⟨h0,_⟩ | ⟨b1,o1,D1,h1,_,h3,h4⟩
  ·omega
  ·obtain⟨g1,g2⟩:=W5 (fun x hx=>(List.getElem?_of_mem hx).elim fun k hk=>X9 k x hk) he
   have hlb:=(gL h3);refine⟨b1,o1,D1,h1,?_,?_,?_⟩
   ·rw[I.same b1 (by rw[List.length_append];omega) (by omega),List.getElem?_append_left hlb];exact h3
   ·rw[←h4,List.drop_take,List.take_take,show min 32 (cs.length*32-i*32)=32 by omega] at g1
    exact g1
   ·rw[←h4,List.length_take] at g2;omega
 obtain⟨N2,Yv⟩:∃N2:Mem,(i=0∧E=.kK∧N2=N)∨∃kr,E=.slice kr 0 i none∧0<i∧(M++Y).length≤kr∧N[kr]? =some (.cells true 32 evs.flatten)∧N2=N.set kr .kO:=by
  rcases I.row with⟨h0,hE⟩ | ⟨kr,hE,h0,hk,hr⟩
  ·exact⟨N,.inl ⟨h0,hE,rfl⟩⟩
  ·exact⟨N.set kr .kO,.inr ⟨kr,hE,h0,hk,hr,rfl⟩⟩
 have aaG:N2.length=N.length:=by rcases Yv with⟨_,_,rfl⟩ | ⟨kr,_,_,_,_,rfl⟩<;>simp
 have ab4:N2[kc]? =some (.cells true 0 [pv,tv,.str ar,E]):=by
  rcases Yv with⟨_,_,rfl⟩ | ⟨kr,_,_,hk,_,rfl⟩
  ·exact I.cell
  ·rw[List.getElem?_set_ne (by omega)];exact I.cell
 have ZS:∀(Z:Mem) (k q:Nat) (e' :List AV),Z.length=k→(N++Z)[q]? =some (.cells true 32 e')→e'.length=32→e'.all AV.kS=true→dy (aM prog) (N++Z) 38 38 E (.slice q 0 1 none)=some (.slice (N.length+k) 0 (i+1) none,N2++(Z++[.cells true 32 (evs.flatten++e')])):=fun Z k q e' hk hq h1 h2=>by
  rw[←hk,←List.length_append,←List.append_assoc];refine B6 (N2:=N2++Z) hq h1 h2 (by omega) hfl ?_;rcases Yv with⟨h0,hE,rfl⟩ | ⟨kr,hE,h0,hk,hr,rfl⟩
  ·exact .inl ⟨h0,hE,rfl⟩
  ·have hkr:=(gL hr)
   exact .inr ⟨kr,hE,h0,by rw[List.getElem?_append_left hkr];exact hr,by rw[List.set_append_left _ _ hkr]⟩
 have Zg:∀(Z:Mem) (p m:Nat) (e' :List AV),Z.length=m→Z.all (fun x=>gm x&&x.y9 (fun b=>decide (b<N.length+m)))=true→Z[p]? =some (.cells true 32 (evs.flatten++e'))→afi (N2.set kc (.cells true 0 [pv,tv,.str ar,.slice (N.length+p) 0 (i+1) none])++Z) e' c→
   CpI (M++Y) kc pv tv cs (N2.set kc (.cells true 0 [pv,tv,.str ar,.slice (N.length+p) 0 (i+1) none])++Z) (i+1) (.slice (N.length+p) 0 (i+1) none) (evs++[e']):=fun Z p m e' hm XW hZ YL =>by
  subst hm;refine I.step (Z:=Z) hk0 hc _ (N.length+p) ⟨fun h0=>?_,fun kr hE=>?_⟩ ⟨by omega,?_⟩ YL XW
  ·rcases Yv with⟨_,_,rfl⟩ | ⟨kr,_,h1,_⟩
   ·rfl
   ·omega
  ·rcases Yv with⟨_,h,_⟩ | ⟨kr',h,_,_,_,rfl⟩
   ·rw[h] at hE;cases hE
   ·rw[h] at hE;cases hE;rfl
  ·rw[List.getElem?_append_right (by rw[List.length_set,aaG];omega),List.length_set,aaG,Nat.add_sub_cancel_left];exact hZ
 have hER:∀m,AV.aeB (fun b=>decide (b<N.length+m)) evs.flatten=true:=fun m=>qM fun x hx=>by obtain⟨k,hk⟩:=List.getElem?_of_mem hx;have h1:=(gL hk);rw[I.evl] at h1;exact(I.con k x _ hk (List.getElem?_eq_getElem (by omega))).refs m
 have ZO:∀(s:aeD) (Z:Mem) (k:Nat),(N2.set kc s++Z)[N.length+k]? =Z[k]? :=fun s Z k=>by rw[List.getElem?_append_right (by rw[List.length_set,aaG];omega),List.length_set,aaG,Nat.add_sub_cancel_left]
 obtain⟨b0,u0,s0,kn0,rfl,hB,hU,⟨vs,lvs,ZB,hvc⟩,hK⟩:=heN;have aeq:=hco.S;have hU' :=hU;have n1:(stC c.B).length=c.B.length*1:=by rw[bU,Nat.mul_one]
 have n2:(stC c.U).length=c.U.length*1:=by rw[bU,Nat.mul_one]
 have n3:(kC c.K).length=c.K.length*2:=by rw[fF,Nat.mul_comm]
 by_cases hS0:c.S.length=0
 ·have hSe:c.S=[]:=List.eq_nil_of_length_eq_zero hS0
  rw[hSe] at lvs ZB hvc;obtain rfl:s0=.kK:=ZB.ae1 rfl;obtain⟨s',k1,k2⟩:=Qu (m1:=m1) (K:=K) A' abe YQ hb1 hD hD2 hkN hkM I.cell ⟨aaG,ab4⟩ hB hU hK hco  ckE cpv ctv hwr (ZS _ 8 _ _ rfl (dC N _ 7) rfl (Evc.all _ (jG _ _) (jG _ _) rfl (jG _ _))) hb h26 h27 h5 (d:=d);have hA2:AV.aeB (fun b=>decide (b<N.length+9)) (c.cells (clV (N.length+1) c.B.length) (clV (N.length+3) c.U.length) .kK (clV (N.length+5) c.K.length))=true:=c.aeR (dm (by omega)) (dm (by omega)) rfl (dm (by omega));exact⟨_,_,_,s',k1,k2,Zg _ 8 9 (c.cells (clV (N.length+1) c.B.length) (clV (N.length+3) c.U.length) .kK (clV (N.length+5) c.K.length)) rfl (by simp only[List.all_cons,List.all_nil,jI,od,fg,wU,mI,Db,RN,ef,hER,hA2,Bool.and_self]) rfl ⟨_,_,_,_,rfl,yG (by rw[show N.length+1+1=N.length+2 from rfl,ZO];rfl) (oz rfl),yG (by rw[show N.length+3+1=N.length+4 from rfl,ZO];rfl) (oz rfl),by rw[hSe];exact zb _,yG (by rw[show N.length+5+1=N.length+6 from rfl,ZO];rfl) (Sh rfl)⟩⟩
 by_cases hS1:c.S.length=1
 ·obtain⟨L1,hSe⟩:∃L1,c.S=[L1]:=by
    match hm:c.S,hS1 with
    | [L1],_=>exact⟨L1,rfl⟩
  rw[hSe] at lvs ZB hvc;obtain⟨v1,rfl⟩:∃v1,vs=[v1]:=by
    match vs,lvs with
    | [v1],_=>exact⟨v1,rfl⟩
  obtain⟨bs,os,rfl,IR⟩:=ZB.pos (by show 0<1;omega);obtain⟨s',k1,k2⟩:=Qv (m1:=m1) (K:=K) A' abe YQ hb1 hD hD2 hkN hkM I.cell ⟨aaG,ab4⟩ hB hU hK hco (hvc 0 v1 L1 rfl rfl) (hco.SL L1 (by rw[hSe];simp)) IR ckE cpv ctv hwr (ZS _ 12 _ _ rfl (dC N _ 11) rfl (Evc.all _ (jG _ _) (jG _ _) rfl (jG _ _))) hb h26 h27 h5 (d:=d);have hA2:AV.aeB (fun b=>decide (b<N.length+13)) (c.cells (clV (N.length+1) c.B.length) (clV (N.length+3) c.U.length) (.slice (N.length+8) 0 1 none) (clV (N.length+9) c.K.length))=true:=c.aeR (dm (by omega)) (dm (by omega)) (by simp only[AV.y9,decide_eq_true_eq];omega) (dm (by omega));have hV1:(clV (N.length+5) L1.length).y9 (fun b=>decide (b<N.length+13))=true:=dm (by omega);exact⟨_,_,_,s',k1,k2,Zg _ 12 13 (c.cells (clV (N.length+1) c.B.length) (clV (N.length+3) c.U.length) (.slice (N.length+8) 0 1 none) (clV (N.length+9) c.K.length)) rfl (by simp only[List.all_cons,List.all_nil,jI,od,fg,wU,mI,Db,RN,ef,hER,hA2,hV1,AV.aeB,Bool.and_self]) rfl ⟨_,_,_,_,rfl,yG (by rw[show N.length+1+1=N.length+2 from rfl,ZO];rfl) (oz rfl),yG (by rw[show N.length+3+1=N.length+4 from rfl,ZO];rfl) (oz rfl),by rw[hSe];exact⟨[clV (N.length+5) L1.length],rfl,.inr ⟨N.length+8,true,rfl,by simp,by rw[ZO];rfl⟩,fun k x L hx hL=>by
    match k,hx,hL with
    |0,hx,hL=>simp at hx hL;subst hx hL;exact yG (by rw[show N.length+5+1=N.length+6 from rfl,ZO];rfl) (oz rfl)
    |k+1,hx,hL=>simp at hx⟩,yG (by rw[show N.length+9+1=N.length+10 from rfl,ZO];rfl) (Sh rfl)⟩⟩
 have hS2:c.S.length=2:=by omega
 obtain⟨L1,L2,hSe⟩:∃L1 L2,c.S=[L1,L2]:=by
   match hm:c.S,hS2 with
   | [L1,L2],_=>exact⟨L1,L2,rfl⟩
 rw[hSe] at lvs ZB hvc;obtain⟨v1,v2,rfl⟩:∃v1 v2,vs=[v1,v2]:=by
   match vs,lvs with
   | [v1,v2],_=>exact⟨v1,v2,rfl⟩
 obtain⟨bs,os,rfl,IR⟩:=ZB.pos (by show 0<2;omega);obtain⟨s',k1,k2⟩:=Qw (m1:=m1) (K:=K) A' abe YQ hb1 hD hD2 hkN hkM I.cell ⟨aaG,ab4⟩ hB hU hK hco (hvc 0 v1 L1 rfl rfl) (hco.SL L1 (by rw[hSe];simp)) (hvc 1 v2 L2 rfl rfl) (hco.SL L2 (by rw[hSe];simp)) IR ckE cpv ctv hwr (ZS _ 16 _ _ rfl (dC N _ 15) rfl (Evc.all _ (jG _ _) (jG _ _) rfl (jG _ _))) hb h26 h27 h5 (d:=d);have hA2:AV.aeB (fun b=>decide (b<N.length+17)) (c.cells (clV (N.length+1) c.B.length) (clV (N.length+3) c.U.length) (.slice (N.length+12) 0 2 none) (clV (N.length+13) c.K.length))=true:=c.aeR (dm (by omega)) (dm (by omega)) (by simp only[AV.y9,decide_eq_true_eq];omega) (dm (by omega));have hV1:(clV (N.length+5) L1.length).y9 (fun b=>decide (b<N.length+17))=true:=dm (by omega);have hV2:(clV (N.length+9) L2.length).y9 (fun b=>decide (b<N.length+17))=true:=dm (by omega);exact⟨_,_,_,s',k1,k2,Zg _ 16 17 (c.cells (clV (N.length+1) c.B.length) (clV (N.length+3) c.U.length) (.slice (N.length+12) 0 2 none) (clV (N.length+13) c.K.length)) rfl (by simp only[List.all_cons,List.all_nil,jI,od,fg,wU,mI,Db,RN,ef,hER,hA2,hV1,hV2,AV.aeB,Bool.and_self]) rfl ⟨_,_,_,_,rfl,yG (by rw[show N.length+1+1=N.length+2 from rfl,ZO];rfl) (oz rfl),yG (by rw[show N.length+3+1=N.length+4 from rfl,ZO];rfl) (oz rfl),by rw[hSe];exact⟨[clV (N.length+5) L1.length,clV (N.length+9) L2.length],rfl,.inr ⟨N.length+12,true,rfl,by simp,by rw[ZO];rfl⟩,fun k x L hx hL=>by
   match k,hx,hL with
   |0,hx,hL=>simp at hx hL;subst hx hL;exact yG (by rw[show N.length+5+1=N.length+6 from rfl,ZO];rfl) (oz rfl)
   |1,hx,hL=>simp at hx hL;subst hx hL;exact yG (by rw[show N.length+9+1=N.length+10 from rfl,ZO];rfl) (oz rfl)
   |k+2,hx,hL=>simp at hx⟩,yG (by rw[show N.length+13+1=N.length+14 from rfl,ZO];rfl) (Sh rfl)⟩⟩
theorem Gt{M:Mem}(H:Qg M l cs)(XW:∀c∈cs,c.Ok)(abe:cs.length≤10){pv tv:AV}(Y4:∃Y,N0=M++Y)(hkM:M.length≤kc)(XR:N0[kc]? =some (.cells true 0 [pv,tv,.str ar,.kK]))(cpv:pv.kS=true)(ctv:tv.kS=true){b:Code}(hb:ai f38=[b,bi]):
  ∃F:Env→Bool→Env×Mem×(AV×List (List AV)),∀z' d,(ab z' 26=l∧ab z' 27=.int .i64 cs.length∧ab z' 5=.ptr kc 0∧ab z' 28=.int .i64 0)→
   aN (aM prog) fW (gC dD) 20 75 M.length true (.loop b) ⟨z',N0,d⟩=some (.exit 0,⟨(F z' d).1,(F z' d).2.1,d⟩)∧(CpI N0 kc pv tv cs (F z' d).2.1 cs.length (F z' d).2.2.1 (F z' d).2.2.2∧ab (F z' d).1 4=ab z' 4∧ab (F z' d).1 5=.ptr kc 0):=by
 have hk0:=(gL XR);refine iz (L:=[28,28,28]) (by simp[ai,aK,f38] at hb;rw[←hb.1];rfl) (fun z'=>ab z' 26=l∧ab z' 27=.int .i64 cs.length∧ab z' 5=.ptr kc 0∧ab z' 28=.int .i64 0) (fun z' AC N' (x:AV×List (List AV))=>CpI N0 kc pv tv cs N' cs.length x.1 x.2∧ab AC 4=ab z' 4∧ab AC 5=.ptr kc 0) ?_;rintro z' d ⟨h26,h27,h5,YH⟩;have hn:aD [28,28,28] (aa b) z' ((28,.int .i64 ((0:Nat):Int))::z')=aD [28,28,28] (aa b) z' z':=by simp[aD,YH]
 rw[←hn];refine iE (α:=Nat×Mem×AV×List (List AV)) (fun a=>⟨aD [28,28,28] (aa b) z' ((28,.int .i64 (a.1:Int))::z'),a.2.1,d⟩) (fun a=>cs.length-a.1)
  (fun a=>a.1≤cs.length∧CpI N0 kc pv tv cs a.2.1 a.1 a.2.2.1 a.2.2.2) (.exit 0) d (fun AC N' =>∃x:AV×List (List AV),CpI N0 kc pv tv cs N' cs.length x.1 x.2∧ab AC 4=ab z' 4∧ab AC 5=.ptr kc 0) (by simp) ?_ 20 (0,N0,.kK,[])
  ⟨by simp,⟨Nat.le_refl _,fun _ _ _=>rfl,XR,rfl,.inl ⟨rfl,rfl⟩,fun k e c h=>by simp at h,ae5.refl _,fun k x hk h=>absurd (gL h) (Nat.not_lt.2 hk)⟩⟩ (by simp only;omega)
 rintro ⟨i,N,E,evs⟩ ⟨hi,I⟩;simp only at hi I;clear hn;by_cases A':i<cs.length
 ·left
  obtain⟨N',E',aaj,s',k1,k2,k3⟩:=Gu (K:=16) (m1:=N0.length) H XW abe Y4 hkM hk0 cpv ctv I A' hb h26 h27 h5 (d:=d);exact⟨(i+1,N',E',aaj),s',k1,k2,⟨by simp only;omega,k3⟩,by simp only;omega⟩
 ·right
  have e:i=cs.length:=by omega
  subst e;have:∃AC,aN (aM prog) fW (gC dD) 20 75 M.length true b ⟨aD [28,28,28] (aa b) z' ((28,.int .i64 (cs.length:Int))::z'),N,d⟩=some (.exit 0,⟨AC,N,d⟩)∧ab AC 4=ab z' 4∧ab AC 5=.ptr kc 0:=by clear I H XR;simp[ai,aK,f38] at hb;obtain⟨hb,_⟩:=hb;subst hb;simp[h27,h5]
  obtain⟨AC,k1,k2,k3⟩:=this;exact⟨AC,N,k1,(E,evs),I,k2,k3⟩
theorem Ll{O:adM}{M:Mem}{pv tv ev Zk Zl :AV}{XP XT:aeD}{n:Nat}{F:Env→Bool→Env×Mem×(AV×List (List AV))}{b:Code}(hb:ai f38=[b,bi])(cp:pv.kS=true)(ct:tv.kS=true)(ce:ev.kS=true)(rp:∀j,AV.y9 (fun a=>decide (a<M.length+j)) pv=true)(rt:∀j,AV.y9 (fun a=>decide (a<M.length+j)) tv=true)(cpq:Zk.kS=true)(kpq:Zk.known=true)(lpq:Zk.cells=[Zk])(rpq:∀j,M.length+5≤j→AV.y9 (fun a=>decide (a<j)) Zk =true)(ctq:Zl.kS=true)(ktq:Zl.known=true)(ltq:Zl.cells=[Zl])(rtq:∀j,M.length+7≤j→AV.y9 (fun a=>decide (a<j)) Zl =true)(oXP:gm XP=true)(fXP:∀f,aeD.y9 f XP=true)(oXT:gm XT=true)(fXT:∀f,aeD.y9 f XT=true)(F':∀N,lD (aM prog) 38 N l=some (.int .i64 n))(eP:O (.fn 63) [pv] (M++[.cells true 0 [pv,tv,.str ar,ev],.cells true 0 [.kK,.kK,.str [],.kK],.cells true 0 [.kK,.kK,.str ar,.kK]])=some ⟨Zk,none,[.kO,XP]⟩)(eT:O (.fn 64) [tv] (M++[.cells true 0 [pv,tv,.str ar,ev],.cells true 0 [.kK,.kK,.str [],.kK],.cells true 0 [.kK,.kK,.str ar,.kK],.kO,XP])=some ⟨Zl,none,[.kO,XT]⟩)(I':∀z' d,(ab z' 26=l∧ab z' 27=.int .i64 n∧ab z' 5=.ptr (M.length+2) 0∧ab z' 28=.int .i64 0)→aN (aM prog) fW O 20 75 M.length true (.loop b) ⟨z',M++[.cells true 0 [pv,tv,.str ar,ev],.cells true 0 [.kK,.kK,.str [],.kK],.cells true 0 [Zk,Zl,.str ar,.kK],.kO,XP,.kO,XT],d⟩=some (.exit 0,⟨(F z' d).1,(F z' d).2.1,d⟩))(T':∀z' d,(ab z' 26=l∧ab z' 27=.int .i64 n∧ab z' 5=.ptr (M.length+2) 0∧ab z' 28=.int .i64 0)→(F z' d).2.1[M.length+2]? =some (.cells true 0 [Zk,Zl,.str ar,(F z' d).2.2.1]))(Yh:∀z' d,(ab z' 26=l∧ab z' 27=.int .i64 n∧ab z' 5=.ptr (M.length+2) 0∧ab z' 28=.int .i64 0)→(F z' d).2.1[M.length+1]? =some (.cells true 0 [.kK,.kK,.str [],.kK]))(hF4:∀z' d,(ab z' 26=l∧ab z' 27=.int .i64 n∧ab z' 5=.ptr (M.length+2) 0∧ab z' 28=.int .i64 0)→(F z' d).2.2.1.kS=true)(hF5:∀z' d,(ab z' 26=l∧ab z' 27=.int .i64 n∧ab z' 5=.ptr (M.length+2) 0∧ab z' 28=.int .i64 0)→ab (F z' d).1 4=ab z' 4)(hF6:∀z' d,(ab z' 26=l∧ab z' 27=.int .i64 n∧ab z' 5=.ptr (M.length+2) 0∧ab z' 28=.int .i64 0)→ab (F z' d).1 5=.ptr (M.length+2) 0)(hF7:∀z' d,(ab z' 26=l∧ab z' 27=.int .i64 n∧ab z' 5=.ptr (M.length+2) 0∧ab z' 28=.int .i64 0)→M.length+1<(F z' d).2.1.length):
  ∃z' d,(ab z' 26=l∧ab z' 27=.int .i64 n∧ab z' 5=.ptr (M.length+2) 0∧ab z' 28=.int .i64 0)∧aU (aM prog) fW (aT prog) O 20 38 [.agg [pv,tv,.str ar,ev],l] M=some (.agg [Zk,Zl,.str ar,(F z' d).2.2.1],(F z' d).2.1.set (M.length+1) (.cells true 0 [Zk,Zl,.str ar,(F z' d).2.2.1])):=by
 have hG:aT prog 38=some f38:=by kernel_rfl
 have XU :=agi;simp only[aG,bF,f38,List.nil_append,List.append_nil,List.cons_append,List.map_cons,List.map_nil,List.cons.injEq,and_true] at XU;obtain⟨XY,_⟩:=XU;simp[ai,aK,f38] at hb;obtain⟨hb,_⟩:=hb;subst hb;have Yj:∀j,(M.length+j<M.length)=False:=fun j=>dz _ _
 have adX:=rp 3;have aer:=rp 5;have aes:=rp 7;have aet:=rt 3;have adY:=rt 5;have aeu:=rt 7;have adZ:AV.y9 (fun b=> !decide (M.length+3≤b)|| !decide (b<M.length+5)) tv=true:=AV.aeH (fun b hb=>by
  simp only[decide_eq_true_eq] at hb;have:¬M.length+3≤b:=by omega
  simp[this]) tv (rt 0)
 have hF8:∀z' d,(ab z' 26=l∧ab z' 27=.int .i64 n∧ab z' 5=.ptr (M.length+2) 0∧ab z' 28=.int .i64 0)→∀s,((F z' d).2.1.set (M.length+1) s)[M.length+1]? =some s:=fun z' d h s=>List.getElem?_set_self (hF7 z' d h)
 have acm:=rpq (M.length+5) (by omega);have acn:=rpq (M.length+7) (by omega);have aco:=rtq (M.length+7) (by omega);have h:∃r,aU (aM prog) fW (aT prog) O 20 38 [.agg [pv,tv,.str ar,ev],l] M=some r∧∃z' d,(ab z' 26=l∧ab z' 27=.int .i64 n∧ab z' 5=.ptr (M.length+2) 0∧ab z' 28=.int .i64 0)∧r=(.agg [Zk,Zl,.str ar,(F z' d).2.2.1],(F z' d).2.1.set (M.length+1) (.cells true 0 [Zk,Zl,.str ar,(F z' d).2.2.1])):=by simp[-Bool.exists_bool,-getElem?_pos,-AV.kS,-AV.known,-AV.cells,-bk,-bp,-aZ,-aE,-AV.y9,-aeD.y9,-List.all_eq_true,vS,rS,mS,fq,aY XY,cO,cd,fz,cY,bW,iT,bef,Nat.testBit,cM,aR,-lD,F',aU,hG,f38,eP,eT,adX,adY,adZ,cpq,kpq,lpq,acm,acn,ctq,ktq,ltq,aco,oXP,fXP,oXT,fXT,Yj,I',T',Yh,hF4,hF5,hF6,hF8];refine⟨_,⟨?_,?_,?_,?_⟩,_,rfl,rfl⟩<;>rfl
 obtain⟨r,h1,z',d,h2,rfl⟩:=h;exact⟨z',d,h2,h1⟩
def XO(N:Mem) (h:List AV) (s:aeE) (cs:List Evc):Prop:=∃pv tv ev,h=[pv,tv,.str ar,ev]∧aeJ N pv 2 s.P.length (pC s.P)∧aeJ N tv 3 s.T.length (tC s.T)∧Qg N ev cs
section
variable {pv Zk tv Zl ev ev' :AV}{B:Bool}{m:Mem}
end
end Go.Proofs
namespace Go.Proofs
open Go.Eng
end Go.Proofs
