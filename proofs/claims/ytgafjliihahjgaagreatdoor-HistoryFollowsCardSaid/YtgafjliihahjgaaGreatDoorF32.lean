/- See F54. -/
import Derived.Test.YtgafjliihahjgaaGreatDoorF30
set_option linter.all false
namespace Go.Proofs
open Go.Eng
def clV(L n:Nat):AV:=if n=0 then .y9 else .slice (L+1) 0 n none
def clX(es n:Nat)(C:List AV):aeY:=if n=0 then .aeP else .cells true es C
def afq(N A :Mem):Prop:=∀(b:Nat) o es C,es=1∨es=2∨es=3→N[b]? =some (.cells o es C)→A[b]? =some (.cells o es C)
theorem afq.refl(N:Mem):afq N N:=fun _ _ _ _ _ h=>h
theorem afq.trans{A B C:Mem}(h:afq A B)(G :afq B C):afq A C:=fun b o es D Z X=>G b o es D Z (h b o es D Z X)
theorem afq.app(N Z:Mem):afq N (N++Z):=fun b o es D _ X=>gU X _
variable{N:Mem}
theorem afq.set{k e:Nat}{o:Bool}{D:List AV}(h:N[k]? =some (.cells o e D))(he:e=0∨e=32)(s:aeY):afq N (N.set k s):=fun b W es V X Z=>by
 rw[List.getElem?_set_ne]
 ·exact Z
 ·rintro rfl
  rw[h] at Z;cases Z;omega
variable{N' :Mem}{v:AV}
theorem afb.upd{es n:Nat}{C:List AV}(h:afb N v es n C)(A:es=1∨es=2∨es=3)(G:afq N N'):afb N' v es n C:=by
 rcases h with h | ⟨b,o,Z,X,h3⟩
 ·exact .inl h
 ·exact .inr ⟨b,o,Z,X,G b o es C A h3⟩
theorem age.upd{S:List (List (List UInt8))}(h:age N v S)(A:afq N N'):age N' v S:=by obtain⟨Z,X,W,h3⟩:=h;exact⟨Z,X,W.upd (.inl rfl) A,fun i x L a b=>(h3 i x L a b).upd (.inl rfl) A⟩
theorem afv.upd{G:List AV}{c:Evc}(h:afv N G c)(A:afq N N'):afv N' G c:=by obtain⟨b,u,s,Z,X,W,h3,V,S⟩:=h;exact⟨b,u,s,Z,X,W.upd (.inl rfl) A,h3.upd (.inl rfl) A,V.upd A,S.upd (.inr (.inl rfl)) A⟩
end Go.Proofs
namespace Go.Proofs
open Go.Eng
def ZA(N:Mem)(v:AV)(n:Nat)(C:List AV):Prop:=(n=0∧C=[]∧(v=.y9∨∃b,v=.slice b 0 0 none))∨∃b o D,v=.slice b 0 n none∧0<n∧N[b]? =some (.cells o 32 D)∧D.take (n*32)=C
def ZB(N:Mem)(v:AV)(cs:List Evc):Prop:=∃Z:List (List AV),Z.length=cs.length∧ZA N v cs.length Z.flatten∧∀(i:Nat) e c,Z[i]? =some e→cs[i]? =some c→afv N e c
structure CpI (N0:Mem)(kc:Nat)(pv tv:AV)(cs:List Evc)(N:Mem)(i:Nat)(E:AV)(evs:List (List AV)):Prop where
 len:N0.length≤N.length
 same:∀k,k<N0.length→k≠kc→N[k]? =N0[k]?
 cell:N[kc]? =some (.cells true 0 [pv,tv,.str bk,E])
 evl:evs.length=i
 row:(i=0∧E=.y9)∨∃kr,E=.slice kr 0 i none∧0<i∧N0.length≤kr∧N[kr]? =some (.cells true 32 evs.flatten)
 con:∀(k:Nat) e c,evs[k]? =some e→cs[k]? =some c→afv N e c
 afI:afq N0 N
 ok:∀(k:Nat) x,N0.length≤k→N[k]? =some x→iO x=true∧x.aeR (fun b=>decide (b<N.length))=true
theorem Uj:∀{l:List (List AV)},(∀x∈l,x.length=32)→l.flatten.length=l.length*32
 | [],_=>rfl
 |x::l,h=>by rw[List.flatten_cons,List.length_append,h x (by simp),Uj (fun y Z=>h y (by simp[Z])),List.length_cons,Nat.succ_mul];omega
variable{c:Evc}{e:List AV}
theorem CpI.step{Y N Z:Mem}{G i:Nat}{pv tv E:AV}{cs:List Evc}{evs:List (List AV)}(H:CpI Y G pv tv cs N i E evs)(hkc:G<Y.length)(hc:cs[i]? =some c)(I :Mem)(A:Nat)(R :(i=0→I =(N.set G (.cells true 0 [pv,tv,.str bk,.slice A 0 (i+1) none]))++Z)∧(∀O,E=.slice O 0 i none→I =((N.set O .aeP).set G (.cells true 0 [pv,tv,.str bk,.slice A 0 (i+1) none]))++Z))(aal:N.length≤A∧I[A]? =some (.cells true 32 (evs.flatten++e)))(he:afv I e c)(aet:Z.all (fun x=>iO x&&x.aeR (fun b=>decide (b<N.length+Z.length)))=true):CpI Y G pv tv cs I (i+1) (.slice A 0 (i+1) none) (evs++[e]):=by
 have hl:=H.len;have K:=H.cell;have J:∃W:Mem,I =W.set G (.cells true 0 [pv,tv,.str bk,.slice A 0 (i+1) none])++Z∧W.length=N.length∧(∀k,k<Y.length→W[k]? =N[k]?)∧afq N W∧∀(k:Nat) x,W[k]? =some x→N[k]? =some x∨x=.aeP:=by
  rcases H.row with⟨D,C⟩ | ⟨O,C,D,V,u⟩
  ·exact⟨N,R.1 D,rfl,fun k _=>rfl,afq.refl N,fun k x h=>.inl h⟩
  ·refine⟨N.set O .aeP,R.2 O C,by simp,fun k m=>?_,afq.set u (.inr rfl) _,fun k x h=>?_⟩
   ·rw[List.getElem?_set_ne (by omega)]
   ·rw[List.getElem?_set] at h
    split at h
    ·split at h
     ·cases h;exact .inr rfl
     ·cases h
    ·exact .inl h
 obtain⟨W,rfl,j,B,h3,h4⟩:=J;have z:(W.set G (.cells true 0 [pv,tv,.str bk,.slice A 0 (i+1) none])).length=N.length:=by rw[List.length_set,j]
 have M:afq N (W.set G (.cells true 0 [pv,tv,.str bk,.slice A 0 (i+1) none])++Z):=h3.trans ((afq.set (by rw[B G hkc];exact K) (.inl rfl) _).trans (afq.app _ _));refine⟨by rw[List.length_append,z];omega,fun k V S'=>?_,?_,by rw[List.length_append,H.evl];rfl,.inr ⟨A,rfl,by omega,by omega,by rw[aal.2,List.flatten_append];simp⟩,fun k x c' X S =>?_,H.afI.trans M,fun k x V X=>?_⟩
 ·rw[List.getElem?_append_left (by omega),List.getElem?_set_ne (by omega),B k V]
  exact H.same k V S'
 ·rw[List.getElem?_append_left (by omega),List.getElem?_set_self (by omega)]
 ·rw[List.getElem?_append] at X
  split at X
  ·exact(H.con k x c' X S).upd M
  ·rename_i F
   have V:k=i:=by have:=gL X;rw[H.evl] at F this;simp at this;omega
   subst V;rw[H.evl,Nat.sub_self] at X;simp at X;subst X;rw[hc] at S;cases S;exact he
 ·rw[List.length_append,z]
  rw[List.getElem?_append] at X;split at X
  ·rename_i FS
   rw[List.getElem?_set_ne (by omega)] at X;rcases h4 k x X with h5 | rfl
   ·obtain⟨a,b⟩:=H.ok k x V h5
    exact⟨a,aeY.ae2 (fun y hy=>by simp only[decide_eq_true_eq] at hy ⊢;omega) x b⟩
   ·exact⟨rfl,rfl⟩
  ·have:=List.all_eq_true.1 aet x (List.mem_of_getElem? X)
   simpa only[Bool.and_eq_true] using this
theorem oP(k:Nat)(M:Mem)(A n:Nat)(h:k<A):(((bl (fun b=>decide (b=k)) 0 M).drop A).take n).all oM=true:=
 EC _ M A n fun b Z _=>by simp;omega
theorem RT(a b:Nat):(!decide (a≤b)|| !decide (b<a))=true:=by
 rcases Nat.lt_or_ge b a with h | h
 ·simp[Nat.not_le.2 h]
 ·simp[Nat.not_lt.2 h]
theorem bK(A:List Nat)(j:Nat)(acc:List (Nat×Rec))(r:Rec)(rest:List Rec):ib A j acc (r::rest)=(r.v.aeR (fun b=>decide (b<r.nx.length))&&(bR r||(dH A j r (j+1) rest&&(r.wr.isEmpty||(gd A j r acc&&r.wr.all (fun b=>eK r.tm b&&(match r.nx[b]? with | some s=>s.aeR (fun b=>decide (b<r.nx.length)) | none=>true))))&&
   (r.nx.drop r.mem.length).all fun s=>iO s&&s.aeR (fun b=>decide (b<r.nx.length))))&&ib A (j+1) ((j,r)::acc) rest):=rfl
theorem L9(f:Nat→Bool)(s:aeY)(new:Mem)(M:Mem)(k:Nat):aW [k] 0 M ((bl f 0 M).set k s++new)=M.set k s++new:=by
 have Z:∀(i:Nat) (M:Mem) (k:Nat),aW [i+k] i M ((bl f i M).set k s++new)=M.set k s++new:=by
  intro i M;induction M generalizing i with
  |nil=>intro k;rfl
  |cons x M ih=>
   intro k;cases k with
   |zero=>
    have h:∀(j:Nat) (M:Mem),i<j→aW [i] j M (bl f j M++new)=M++new:=by
     intro j M X;induction M generalizing j with
     |nil=>rfl
     |cons y M ih=>simp[bl,aW,ih (j+1) (by omega),show¬j=i by omega]
    simp[bl,aW,h (i+1) M (by omega)]
   |succ k=>
    have:=ih (i+1) k;rw[show i+1+k=i+(k+1) by omega] at this;simp[bl,aW,this,show¬i=i+(k+1) by omega]
 have:=Z 0 M k
 rwa [Nat.zero_add] at this
theorem vS:((∀a,(AV.str a).known=true)∧(∀k i,(AV.int k i).known=true)∧(∀b o n c,(AV.slice b o n c).known=true)∧AV.y9.known=true∧(∀b o,(AV.ptr b o).known=true)∧(∀Z,(AV.agg Z).known=true))∧
  ((∀a,(AV.str a).cells=[.str a])∧(∀k i,(AV.int k i).cells=[.int k i])∧(∀b o n c,(AV.slice b o n c).cells=[.slice b o n c])∧AV.y9.cells=[.y9]∧(∀b o,(AV.ptr b o).cells=[.ptr b o])∧∀Z,(AV.agg Z).cells=Z)∧
  ((∀b o n c,(AV.slice b o n c).aeS=true)∧(∀a,(AV.str a).aeS=true)∧(∀k i,(AV.int k i).aeS=true)∧(∀b,(AV.bool b).aeS=true)∧AV.y9.aeS=true∧∀b o,(AV.ptr b o).aeS=true):=
 ⟨⟨fun _=>rfl,fun _ _=>rfl,fun _ _ _ _=>rfl,rfl,fun _ _=>rfl,fun _=>rfl⟩,⟨fun _=>rfl,fun _ _=>rfl,fun _ _ _ _=>rfl,rfl,fun _ _=>rfl,fun _=>rfl⟩,⟨fun _ _ _ _=>rfl,fun _=>rfl,fun _ _=>rfl,fun _=>rfl,rfl,fun _ _=>rfl⟩⟩
theorem EJ(f:Nat→Bool)(a:List UInt8):(AV.str a).aeR f=true:=rfl
theorem rS(f:Nat→Bool):AV.y9.aeR f=true∧(∀b o n c,(AV.slice b o n c).aeR f=f b)∧(∀b o,(AV.ptr b o).aeR f=f b)∧(∀a,(AV.str a).aeR f=true)∧(∀k i,(AV.int k i).aeR f=true)∧(∀b,(AV.bool b).aeR f=true)∧(∀Z,(AV.agg Z).aeR f=AV.aeW f Z)∧(∀Z,(AV.tuple Z).aeR f=AV.aeW f Z)∧AV.undef.aeR f=true∧
  aeY.aeR f .aeP=true∧(∀o es Z,aeY.aeR f (.cells o es Z)=AV.aeW f Z):=⟨rfl,fun _ _ _ _=>rfl,fun _ _=>rfl,fun _=>rfl,fun _ _=>rfl,fun _=>rfl,fun _=>rfl,fun _=>rfl,rfl,rfl,fun _ _ _=>rfl⟩
theorem mS:((∀(M X:Mem) k,(M++X)[M.length+k]? =X[k]?)∧(∀M X:Mem,(M++X)[M.length]? =X[0]?)∧(∀(M X:Mem) k s,(M++X).set (M.length+k) s=M++X.set k s)∧(∀(M X:Mem) s,(M++X).set M.length s=M++X.set 0 s)∧(∀(M X:Mem) k,(M++X).drop (M.length+k)=X.drop k)∧(∀M X:Mem,(M++X).drop M.length=X))∧
  ((∀(α:Type) (s:α) l,(s::l)[0]? =some s)∧(∀(α:Type) (s:α) l (i:Nat),(s::l)[i+1]? =l[i]?))∧((∀es V,iO (.cells true es V)=true)∧iO .aeP=true)∧
  ((∀f i M,aW [] i M (bl f i M)=M)∧(∀i M,aW [] i M M=M)∧(∀f Z i M,aW [] i M (bl f i M++Z)=M++Z)∧(∀Z i M,aW [] i M (M++Z)=M++Z)∧(∀f s M k,aW [k] 0 M ((bl f 0 M).set k s)=M.set k s)∧(∀f s Z M k,aW [k] 0 M ((bl f 0 M).set k s++Z)=M.set k s++Z)∧(∀wr i M,aW wr i [] M=M)∧(∀i s s' r W,aW [] i (s::r) (s' ::W)=s::aW [] (i+1) r W)∧(∀i N X Y,aW [] i (N++X) (N++Y)=N++aW [] (i+N.length) X Y))∧
  ((∀f i M b,(bl f i M)[b]? =(M[b]?).map fun s=>if f (i+b) then s else .aeP)∧(∀i M,bl (fun _=>true) i M=M)∧(∀f i M,(bl f i M).length=M.length)∧(∀M S n,(((bl (fun _=>false) 0 M).drop S).take n).all oM=true)∧(∀a b:Nat,(a≤b∧b<a)=False)∧(∀a b:Nat,(!decide (a≤b)|| !decide (b<a))=true))∧
  ((∀b o n c,bL (.slice b o n c)=[b])∧bL .y9=[])∧(∀O j acc,ib O j acc []=true):=
 ⟨⟨fV,jU,G4,WU,X5,WD⟩,⟨fun _ _ _=>rfl,fun _ _ _ _=>rfl⟩,⟨fun _ _=>rfl,rfl⟩,⟨vZ,yF,Cm,yE,L8,L9,fun _ _ _=>rfl,vY,Cn⟩,⟨uK,ED,EE,OU,OS,RT⟩,⟨fun _ _ _ _=>rfl,rfl⟩,fun _ _ _=>rfl⟩
theorem afb.refs{N:Mem}{v:AV}{es n:Nat}{C:List AV}(h:afb N v es n C)(j:Nat):AV.aeR (fun a=>decide (a<N.length+j)) v=true:=by
 rcases h with⟨rfl,_,_⟩ | ⟨b,o,rfl,_,Z⟩
 ·rfl
 ·have:=gL Z
  simp only[AV.aeR,decide_eq_true_eq];omega
theorem Evc.afc(c:Evc){f:Nat→Bool}{b u s A:AV}(G:b.aeR f=true)(hu:u.aeR f=true)(hs:s.aeR f=true)(H:A.aeR f=true):AV.aeW f (c.cells b u s A)=true:=by simp only[Evc.cells,AV.aeW,AV.aeR,G,hu,hs,H,Bool.and_self]
theorem afv.refs{N:Mem}(h:afv N e c)(j:Nat):AV.aeW (fun a=>decide (a<N.length+j)) e=true:=by obtain⟨b,u,s,V,rfl,Z,X,⟨_,_,h3,_⟩,W⟩:=h;exact c.afc (Z.refs j) (X.refs j) (h3.refs j) (W.refs j)
theorem yO{f:Nat→Bool}:∀{evs:List (List AV)},(∀e∈evs,AV.aeW f e=true)→AV.aeW f evs.flatten=true
 | [],_=>rfl
 |e::l,h=>by rw[List.flatten_cons,gm,h e (by simp),yO (fun x Z=>h x (by simp[Z]))];rfl
end Go.Proofs
namespace Go.Proofs
open Go.Eng
def Z0(N:Mem)(h:List AV)(s:aeX)(cs:List Evc):Prop:=∃Z X W,h=[Z,X,.str bk,W]∧afb N Z 2 s.P.length (pC s.P)∧afb N X 3 s.T.length (tC s.T)∧ZB N W cs
section
variable {pv pv' tv tv' ev ev' :AV}{B:Bool}{m:Mem}
end
end Go.Proofs
