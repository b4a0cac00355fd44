/- See K51. -/
import Derived.Test.YtffdedmakncfmaaGreatDoorK46
set_option linter.all false
namespace Go.Proofs
open Go.Eng
theorem GJ{n:Int}{k:Nat}(h:n.natAbs<10 ^ k) (h0:0<k):dg k k ((n:Int):Rat):=⟨h,by show(1:Nat)<10 ^ k;have:10 ^ 1≤10 ^ k:=Nat.pow_le_pow_right (by omega) h0;omega⟩
theorem LU{z:Int}{k:Nat}(h:z.natAbs<10 ^ k) (h0:0<k):dg k k (hQ z):=sP (by decide) h (by have:10 ^ 1≤10 ^ k:=Nat.pow_le_pow_right (by omega) h0;omega)
theorem OK{v:Z3}{n k:Nat}(h:Kt n v) (hn:n<10 ^ k) (h0:0<k):vDg k (zQ v):=⟨GJ (by have:=h.1;omega) h0,GJ (by have:=h.2.1;omega) h0,GJ (by have:=h.2.2;omega) h0⟩
theorem RH{v:Z3}{n k:Nat}(h:Kt n v) (hn:n<10 ^ k) (h0:0<k):vDg k (hV v):=⟨LU (by have:=h.1;omega) h0,LU (by have:=h.2.1;omega) h0,LU (by have:=h.2.2;omega) h0⟩
theorem Sy{v:Z3}(h:Qs v=false):¬Bz (zQ v):=by
 rintro ⟨h1,h2,h3⟩
 have k1:v.1=0:=by have:((v.1:Int):Rat)=0:=h1;exact_mod_cast this
 have k2:v.2.1=0:=by have:((v.2.1:Int):Rat)=0:=h2;exact_mod_cast this
 have k3:v.2.2=0:=by have:((v.2.2:Int):Rat)=0:=h3;exact_mod_cast this
 simp[Qs,k1,k2,k3] at h
theorem QW(n v:Z3):(oo n v).1*n.1+(oo n v).2.1*n.2.1+(oo n v).2.2*n.2.2=0:=by
 unfold oo
 grind
theorem QF{a b:Z3}(h:a.1*b.1+a.2.1*b.2.1+a.2.2*b.2.2=0):vW (zQ a) (zQ b)=0:=by
 unfold vW zQ
 have:(((a.1*b.1+a.2.1*b.2.1+a.2.2*b.2.2:Int)):Rat)=0:=by rw[h];rfl
 simpa [Rat.intCast_add,Rat.intCast_mul] using this
theorem RI{a b:Z3}(h:a.1*b.1+a.2.1*b.2.1+a.2.2*b.2.2=0):vW (hV a) (zQ b)=0:=by
 have k:=QF h
 unfold vW zQ hV at*
 simp only[jU] at*
 grind
theorem qc(s:Sheet):0<s.P.length∧s.P.length≤1000:=by
 have h:∀k<8,0<(cP k).length∧(cP k).length≤1000:=by decide
 have:=h (s.kind%8) (Nat.mod_lt _ (by decide))
 unfold Sheet.P
 rwa [List.length_map]
def ctM(x:Sketch):Nat:=(ct3 (x.n 7)).toNat
theorem Nx{x:Sketch}:ct3 (x.n 7)=(ctM x:Int):=by
 have:=JS (x.n 7)
 unfold ctM
 omega
theorem sO(x:Sketch):ctM x=1∨ctM x=2∨ctM x=3:=by
 have:=JS (x.n 7)
 unfold ctM
 omega
def cSk(x:Sketch) (n:Nat):Evc:=match x.kind%5 with
 |0=>xe x n (ctN x)
 |1=>fc [110] (zQ (dQ x)) (hQ (fD (x.n 6))) (hV (tQ x))
 |2=>dY [110] (zQ (dQ x)) (x.knots (ctM x)) (zQ (tQ x))
 |3=>qq [110] (zQ (dQ x)) (hQ (fD (x.n 6))) (hQ (ps9 (x.n 7))) [110,95,114,111,99,107]
 |_=>fI [110] (rV x) (zQ (dQ x))
theorem GZ{x:Sketch}{c:Nat}(hc:c≤3) {q:Rat×Rat}(h:q∈x.knots c):big 2 q.1∧big 2 q.2:=by
 unfold Sketch.knots at h
 obtain⟨i,hi,rfl⟩:=List.mem_map.1 h
 have hi:=List.mem_range.1 hi
 have h1:=x.at_le i
 have h2:=cC (x.n ((i+7)%8))
 exact⟨GJ (k:=2) (by omega) (by decide),LU (k:=2) (by show(fD _).natAbs<_;omega) (by decide)⟩
theorem J3{x:Sketch}{c i:Nat}{a:Rat×Rat}(h:(x.knots c)[i]? =some a):a=x.knot i:=by
 unfold Sketch.knots at h
 rw[List.getElem?_map] at h
 by_cases hi:i<c
 ·rw[List.getElem?_range hi] at h
  exact(Option.some.inj h).symm
 ·rw[List.getElem?_eq_none (by simp;omega)] at h
  cases h
theorem J4{x:Sketch}{c i:Nat}{a b:Rat×Rat}(ha:(x.knots c)[i]? =some a) (hb:(x.knots c)[i+1]? =some b):a.1<b.1:=by
 rw[J3 ha,J3 hb]
 have:=x.at_lt i
 show((x.at i:Int):Rat)<((x.at (i+1):Int):Rat)
 exact_mod_cast this
theorem nj(s:Sheet) (x:Sketch):jJ s (cSk x s.P.length):=by
 obtain⟨p1,p2⟩:=qc s
 have nN:=(OK (tx x) (k:=1) (by decide) (by decide))
 have nz:=Sy (P6 x)
 have o6:=LU (z:=fD (x.n 6)) (k:=1) (by have:=cC (x.n 6);omega) (by decide)
 have cd:=QW (dQ x) (fD (x.n 3),fD (x.n 4),fD (x.n 5))
 unfold cSk
 split
 ·exact D8 s x _ _ rfl p1 p2 (iA x)
 ·exact Ai s [110] _ _ _ (by decide) (nN.mono (by omega)) nz (o6.mono (by omega) (by omega)) ((RH (yK x) (k:=3) (by decide) (by decide)).mono (by omega)) (RI cd)
 ·have hc:=sO x
  refine BT s [110] _ _ _ (by decide) (nN.mono (by omega)) nz (by rw[Sketch.knots_length];omega) (by rw[Sketch.knots_length];omega) (fun q hq=>?_) (fun i a b ha hb=>J4 ha hb) ((OK (yK x) (k:=3) (by decide) (by decide)).mono (by omega)) (QF cd)
  have:=GZ (c:=ctM x) (by omega) hq
  exact⟨this.1.mono (by omega),this.2.mono (by omega)⟩
 ·have hp:=kX (x.n 7)
  exact BS s [110] _ _ _ _ (by decide) (nN.mono (by omega)) nz (o6.mono (by omega) (by omega)) ((LU (z:=ps9 (x.n 7)) (k:=1) (by omega) (by decide)).mono (by omega) (by omega)) (RE (by omega)) (by decide)
 ·exact BU s [110] _ _ (by decide) (fun M=>sf (Kp x) (Kq x) M) (nN.mono (by omega))
def QY(m:Nat) (x:Sketch) (n:Nat):List AV:=(cSk x n).cells (if x.kind%5=0 then .slice m 0 n none else .nilslice) (if x.kind%5=0 then .slice (m+1) 0 (ctN x) none else .nilslice) (if x.kind%5=0 then dqS m n (ctN x) else .nilslice) (if x.kind%5=2 then .slice m 0 (ctM x) none else .nilslice)
def MJ(m:Nat) (x:Sketch) (n:Nat):Mem:=if x.kind%5=0 then dqN m x n (ctN x) else if x.kind%5=2 then [.cells true 2 (kC (kT (x.knots (ctM x))))] else []
theorem pO(k:Nat):k%5=0∨k%5=1∨k%5=2∨k%5=3∨k%5=4:=by omega
theorem Sc{x:Sketch}{n:Nat}(h:x.kind%5=0):cSk x n=xe x n (ctN x):=by unfold cSk;rw[h];rfl
theorem Se{x:Sketch}{n:Nat}(h:x.kind%5=1):cSk x n=fc [110] (zQ (dQ x)) (hQ (fD (x.n 6))) (hV (tQ x)):=by unfold cSk;rw[h];rfl
theorem Sf{x:Sketch}{n:Nat}(h:x.kind%5=2):cSk x n=dY [110] (zQ (dQ x)) (x.knots (ctM x)) (zQ (tQ x)):=by unfold cSk;rw[h];rfl
theorem Sg{x:Sketch}{n:Nat}(h:x.kind%5=3):cSk x n=qq [110] (zQ (dQ x)) (hQ (fD (x.n 6))) (hQ (ps9 (x.n 7))) [110,95,114,111,99,107]:=by unfold cSk;rw[h];rfl
theorem Sh{x:Sketch}{n:Nat}(h:x.kind%5=4):cSk x n=fI [110] (rV x) (zQ (dQ x)):=by unfold cSk;rw[h];rfl
theorem DN(x:Sketch) (hx:x.Ok) (n k:Nat) (hn:0<n) (hl:n≤1000):ACallsTo Tryz.prog 8 [.agg [.slice 0 0 n none,.slice 1 0 k none],.agg x.cells,.str [110]] [.absent,.absent] (.agg (QY 2 x n)) ([.absent,.absent]++MJ 2 x n):=by
 unfold QY MJ
 rcases pO x.kind with h | h | h | h | h
 ·rw[Sc h,h];exact BL x hx n k hn hl h
 ·rw[Se h,h];exact BM x hx n k h
 ·rw[Sf h,h]
  rcases sO x with h3 | h3 | h3
  ·rw[h3];exact Af x hx n k h (by rw[Nx,h3];rfl)
  ·rw[h3];exact Ag x hx n k h (by rw[Nx,h3];rfl)
  ·rw[h3];exact Ah x hx n k h (by rw[Nx,h3];rfl)
 ·rw[Sg h,h];exact BN x hx n k h
 ·rw[Sh h,h];exact BO x hx n k h
theorem DO(x:Sketch) (hx:x.Ok) (n k:Nat) (hn:0<n) (hl:n≤1000) (M:Mem) (p t:Nat) (hp:p<M.length) (ht:t<M.length):
  ACallsTo Tryz.prog 8 [.agg [.slice p 0 n none,.slice t 0 k none],.agg x.cells,.str [110]] M (.agg (QY M.length x n)) (M++MJ M.length x n):=by
 have e0:=fun f=>aJ (ρ:=f) x.closed
 have h3:=iA x
 have h0:=DN x hx n k hn hl
 have:=ACallsTo.frame (M:=M) (new:=MJ 2 x n) [p,t] (m:=[.absent,.absent]) rfl (by
  intro k hk
  simp only[List.mem_cons,List.not_mem_nil,or_false] at hk
  rcases hk with rfl | rfl
  ·exact hp
  ·exact ht) (by simp[AV.unders,AV.under,aR x.closed]) (fun i s hs=>by
  match i with
  |0=>simp at hs;subst hs;trivial
  |1=>simp at hs;subst hs;trivial
  |i+2=>simp at hs) (by
   unfold MJ
   rcases pO x.kind with h | h | h | h | h<;>rw[h]<;>try rfl
   rcases h3 with h3 | h3 | h3<;>rw[h3]<;>rfl) h0
 unfold QY MJ at this ⊢
 obtain⟨C,hC⟩:∃C,C=cSk x n:=⟨_,rfl⟩
 rw[←hC] at this ⊢
 have kr:∀f,AV.rens f (kC (kT (x.knots (ctM x))))=kC (kT (x.knots (ctM x))):=fun f=>aJ (jq _)
 rcases pO x.kind with h | h | h | h | h
 ·obtain⟨c,hc⟩:∃c,c=ctN x:=⟨_,rfl⟩
  rw[←hc] at this h3 ⊢
  rcases h3 with rfl | rfl | rfl<;>simpa [h,AV.rens,AV.ren,eK,Slot.ren,dqS,dqN,iD,uNm,nmE,stC,e0,Evc.cells] using this
 ·simpa [h,AV.rens,AV.ren,eK,Slot.ren,e0,Evc.cells] using this
 ·simpa [h,AV.rens,AV.ren,eK,Slot.ren,e0,Evc.cells,kr] using this
 ·simpa [h,AV.rens,AV.ren,eK,Slot.ren,e0,Evc.cells] using this
 ·simpa [h,AV.rens,AV.ren,eK,Slot.ren,e0,Evc.cells] using this
theorem yN(M N:Mem) (k:Nat):(M++N)[M.length+k]? =N[k]? :=by
 rw[List.getElem?_append_right (by omega)]
 congr 1
 omega
theorem Nj(M N:Mem):(M++N)[M.length]? =N[0]? :=yN M N 0
theorem j9{N:Mem}{b es n:Nat}{C:List AV}{o:Bool}(h0:0<n) (h:N[b]? =some (.cells o es C)):RowAt N (.slice b 0 n none) es n C:=.inr ⟨b,o,rfl,h0,h⟩
theorem gU{N:Mem}{es:Nat}:RowAt N .nilslice es 0 []:=.inl ⟨rfl,rfl,rfl⟩
theorem Hw{N:Mem}:SfAt N .nilslice []:=⟨[],rfl,gU,fun i x L h=>by simp at h⟩
theorem JB{c:Nat}(h:c=1∨c=2∨c=3):(uNm c).length=c:=by rcases h with rfl | rfl | rfl<;>rfl
theorem ND(x:Sketch) (n:Nat) (hn:0<n) (M:Mem):EvAt (M++MJ M.length x n) (QY M.length x n) (cSk x n):=by
 unfold QY MJ
 have h3:=iA x
 rcases pO x.kind with h | h | h | h | h
 ·rw[Sc h,h]
  refine⟨_,_,_,_,rfl,?_,?_,?_,gU⟩
  ·simp only[if_true]
   have e1:(xe x n (ctN x)).B.length=n:=by show(hS _).length=n;rw[oB,Hts.l_length]
   rw[e1]
   refine j9 (o:=true) hn ?_
   rw[Nj]
   show _=some (Slot.cells true 1 (stC (hS _)))
   rw[Qy]
   rcases h3 with h3 | h3 | h3<;>rw[h3]<;>rfl
  ·simp only[if_true]
   have e1:(xe x n (ctN x)).U.length=ctN x:=JB h3
   rw[e1]
   refine j9 (o:=true) (by omega) ?_
   rw[yN]
   show _=some (Slot.cells true 1 (stC (uNm (ctN x))))
   rcases h3 with h3 | h3 | h3<;>rw[h3]<;>rfl
  ·simp only[if_true]
   show SfAt _ _ ((Bw x n (ctN x)).map hS)
   rcases h3 with h3 | h3 | h3<;>rw[h3]
   ·exact Hw
   ·refine⟨[.slice (M.length+3) 0 n none],rfl,j9 (o:=true) (by show 0<1;omega) (by rw[yN];rfl),fun i x L hx hL=>?_⟩
    match i,hx,hL with
    |0,hx,hL=>
     cases hx;cases hL
     rw[oB,gj]
     refine j9 (o:=true) hn ?_
     rw[yN,Qy];rfl
    |i+1,hx,_=>simp at hx
   ·refine⟨[.slice (M.length+3) 0 n none,.slice (M.length+4) 0 n none],rfl,j9 (o:=true) (by show 0<2;omega) (by rw[yN];rfl),fun i x L hx hL=>?_⟩
    match i,hx,hL with
    |0,hx,hL=>
     cases hx;cases hL
     rw[oB,gj]
     refine j9 (o:=true) hn ?_
     rw[yN,Qy];rfl
    |1,hx,hL=>
     cases hx;cases hL
     rw[oB,gj]
     refine j9 (o:=true) hn ?_
     rw[yN,Qy];rfl
    |i+2,hx,_=>simp at hx
 ·rw[Se h,h];exact⟨_,_,_,_,rfl,gU,gU,Hw,gU⟩
 ·rw[Sf h,h]
  refine⟨_,_,_,_,rfl,gU,gU,Hw,?_⟩
  have e1:(dY [110] (zQ (dQ x)) (x.knots (ctM x)) (zQ (tQ x))).K.length=ctM x:=by show(kT _).length=_;rw[kS,Sketch.knots_length]
  rw[e1]
  have:=sO x
  exact j9 (o:=true) (by omega) (by rw[Nj];rfl)
 ·rw[Sg h,h];exact⟨_,_,_,_,rfl,gU,gU,Hw,gU⟩
 ·rw[Sh h,h];exact⟨_,_,_,_,rfl,gU,gU,Hw,gU⟩
theorem fN{M:Mem}{p:Nat}{s:Slot}(h:M[p]? =some s) (Z:Mem):(M++Z)[p]? =some s:=by
 rw[List.getElem?_append_left (List.getElem?_eq_some_iff.1 h).1];exact h
theorem JY{M:Mem}{p:Nat}{s:Slot}(h:M[p]? =some s):p<M.length:=(List.getElem?_eq_some_iff.1 h).1
theorem RowAt.refs{N:Mem}{v:AV}{es n:Nat}{C:List AV}(h:RowAt N v es n C) (x:Nat):v.refsOk (fun b=>decide (b<N.length+x))=true:=by
 rcases h with⟨rfl,_⟩ | ⟨b,o,rfl,_,h⟩
 ·rfl
 ·have:=JY h
  simp only[AV.refsOk,decide_eq_true_eq]
  omega
theorem EvAt.refs{N:Mem}{e:List AV}{c:Evc}(h:EvAt N e c) (x:Nat):AV.refsOkL (fun b=>decide (b<N.length+x)) e=true:=by
 obtain⟨b,u,sv,kn,rfl,h1,h2,⟨_,_,h3,_⟩,h4⟩:=h
 have k1:=h1.refs x
 have k2:=h2.refs x
 have k3:=h3.refs x
 have k4:=h4.refs x
 simp only[Evc.cells,AV.refsOkL,k1,k2,k3,k4,AV.refsOk,Bool.and_self]
def gF(s:Sheet) (p t:Nat):AV:=.agg [.slice p 0 s.P.length none,.slice t 0 s.T.length none]
theorem iu{K:Int}{g g1 mf g3 g4:FuncId}{onl:Evc→Evc}{x y:Bool}(kp:Tryz.KindP K g g1 mf g3 g4 onl x y) {s:Sheet}{c:Evc}(hk:c.k=K) (hCk:jJ s c) {M:Mem}{p t:Nat}{o o' :Bool}{ev:List AV}(hp:M[p]? =some (.cells o 2 (pC s.P))) (ht:M[t]? =some (.cells o' 3 (tC s.T))) (hE:EvAt M ev c) {mo:Int}
  (hN:∀Z,ACallsTo Tryz.prog mf [.agg ev] (M++Z) (.int .i64 mo) (M++Z)) (n1:83≠mf) (n2:63≠mf) (n:Int) (Z:Mem):
  ACallsTo Tryz.prog 42 [gF s p t,.agg ev,.int .i64 n] (M++Z) (.int .i64 (if loK K≤n∧n≤mo then 0 else 10)) (M++Z):=by
 have hE2:=hE.more Z
 have lp:=JY (fN hp Z)
 have lt:=JY (fN ht Z)
 have lo:loK K=if K=1 then -2 else 0:=rfl
 have rs:∀(q k x:Nat),q<(M++Z).length→(AV.slice q 0 k none).refsOk (fun b=>decide (b<(M++Z).length+x))=true:=fun q k x h=>by
  simp only[AV.refsOk,decide_eq_true_eq];omega
 have h0:ev[0]? =some (.int .i64 K):=by
  obtain⟨b,u,sv,kn,rfl,_⟩:=id hE
  show some (AV.int .i64 c.k)=_
  rw[hk]
 refine xX (kd:=K) (k0:=g) (k1:=g1) (k3:=g3) (k4:=g4) ⟨rfl,rfl⟩ hE.l32 (List.all_eq_true.2 hE.cok) (fun x=>rs _ _ x lp) (fun x=>rs _ _ x lt) (fun x=>hE2.refs x) h0 lo (fun Z' =>hCk _ p t o o' ev (fN (fN hp Z) Z') (fN (fN ht Z) Z') (hE2.more Z')) (fun Z' =>?_) (fun Z' =>by rw[List.append_assoc];exact hN (Z++Z')) n1 n2
 obtain⟨b,u,sv,kn,rfl,h1,h2,⟨_,_,h3,_⟩,h4⟩:=hE
 have:=JI kp (N:=(M++Z)++Z') (nm:=c.nm) (R:=((c.cells b u sv kn).drop 2)) rfl (by simp[Evc.cells,h1.ck,h2.ck,h3.ck,h4.ck,vS,-AV.cellOk])
 rw[←hk] at this
 exact this
def dH(M:Mem) (mv:AV) (ev:List AV) (n:Int):Prop:=
 (∃r b R v,(∀Z,ACallsTo Tryz.prog 13 [mv,.agg ev,.int .i64 n] (M++Z) (.tuple [.str r,.bool b,.int .i64 0]) (M++Z))∧(∀Z,ACallsTo Tryz.prog 14 [mv,.agg ev,.int .i64 n] (M++Z) (.tuple [afA R v,.int .i64 0]) (M++Z))∧∀Z,ACallsTo Tryz.prog 15 [.agg ev,.int .i64 n] (M++Z) (.bool true) (M++Z))∨
 ((∀Z,ACallsTo Tryz.prog 13 [mv,.agg ev,.int .i64 n] (M++Z) (.tuple [.str [],.bool false,.int .i64 10]) (M++Z))∧(∀Z,ACallsTo Tryz.prog 14 [mv,.agg ev,.int .i64 n] (M++Z) (.tuple [zAf,.int .i64 10]) (M++Z))∧∀Z,ACallsTo Tryz.prog 15 [.agg ev,.int .i64 n] (M++Z) (.bool false) (M++Z))
theorem fp{M:Mem}{s:Sheet}{p t:Nat}{ev:List AV}{c:Evc}{n:Int}{P:Prop}[Decidable P] (hE:EvAt M ev c) (hpos:∀Z,ACallsTo Tryz.prog 42 [gF s p t,.agg ev,.int .i64 n] (M++Z) (.int .i64 (if P then 0 else 10)) (M++Z))
  (hlow:∀Z,ACallsTo Tryz.prog 15 [.agg ev,.int .i64 n] (M++Z) (.bool (decide P)) (M++Z))
  {o:Option (List UInt8)}{R:M3}{v:V3}
  (hEn:P→∀Z,(∀Z',ACallsTo Tryz.prog 42 [gF s p t,.agg ev,.int .i64 n] ((M++Z)++Z') (.int .i64 0) ((M++Z)++Z'))→ACallsTo Tryz.prog 13 [gF s p t,.agg ev,.int .i64 n] (M++Z) (LV o) (M++Z))
  (hB:P→∀Z,(∀Z',ACallsTo Tryz.prog 42 [gF s p t,.agg ev,.int .i64 n] ((M++Z)++Z') (.int .i64 0) ((M++Z)++Z'))→ACallsTo Tryz.prog 14 [gF s p t,.agg ev,.int .i64 n] (M++Z) (.tuple [afA R v,.int .i64 0]) (M++Z)):
  dH M (gF s p t) ev n:=by
 by_cases hP:P
 ·have k:∀Z Z',ACallsTo Tryz.prog 42 [gF s p t,.agg ev,.int .i64 n] ((M++Z)++Z') (.int .i64 0) ((M++Z)++Z'):=fun Z Z' =>by
   have:=hpos (Z++Z')
   rw[if_pos hP,←List.append_assoc] at this
   exact this
  refine .inl ⟨o.getD [],o.isSome,R,v,fun Z=>?_,fun Z=>hB hP Z (k Z),fun Z=>by have:=hlow Z;rwa [decide_eq_true hP] at this⟩
  have:=hEn hP Z (k Z)
  cases o<;>exact this
 ·have k:∀Z Z',ACallsTo Tryz.prog 42 [gF s p t,.agg ev,.int .i64 n] ((M++Z)++Z') (.int .i64 10) ((M++Z)++Z'):=fun Z Z' =>by
   have:=hpos (Z++Z')
   rw[if_neg hP,←List.append_assoc] at this
   exact this
  exact .inr ⟨fun Z=>xV ⟨rfl,rfl⟩ hE.l32 hE.cok (k Z),fun Z=>xU ⟨rfl,rfl⟩ hE.l32 hE.cok (k Z),fun Z=>by have:=hlow Z;rwa [decide_eq_false hP] at this⟩
theorem Li{Q:List (Rat×Rat)}{n:Nat}(hn:n≤Q.length) (hQ:Rx 40 Q) (hl:Q.length≤1000000000) (hd:∀i a b,Q[i]? =some a→Q[i+1]? =some b→b.1-a.1≠0) {M:Mem}{b:Nat}{o:Bool}(hb:M[b]? =some (.cells o 2 (kC (kT Q)))):
  ACallsTo Tryz.prog 45 [.slice b 0 Q.length none,.int .i64 n] M (.tuple [.str (aB (sX Q n).1),.str (aB (sX Q n).2)]) M:=
 ACallsTo.rows1R (rest:=[.int .i64 n]) (jq _) rfl rfl (HL Q n hn hQ hl hd) ⟨b,o,_,rfl,hb,List.take_length⟩
theorem PW{x:Sketch}{c i:Nat}{a b:Rat×Rat}(ha:(x.knots c)[i]? =some a) (hb:(x.knots c)[i+1]? =some b):b.1-a.1≠0:=by
 have:=J4 ha hb
 grind
theorem kne{c:Evc}(k:Int) {m:Int}(h:c.k=k) (e:k≠m):¬c.k=m:=fun h' =>e (h.symm.trans h')
section
variable {x:Sketch}{s:Sheet}{M:Mem}{p t:Nat}{o o' :Bool}{ev:List AV}
theorem Iw(h:x.kind%5=0) (hp:M[p]? =some (.cells o 2 (pC s.P))) (ht:M[t]? =some (.cells o' 3 (tC s.T))) (hE:EvAt M ev (cSk x s.P.length)) (n:Int):dH M (gF s p t) ev n:=by
 obtain⟨p1,p2⟩:=qc s
 have hCk:=nj s x
 rw[Sc h] at hE hCk
 have h3:=iA x
 obtain⟨b,u,sv,kn,rfl,h1,h2,h3',h4⟩:=id hE
 have e1:(xe x s.P.length (ctN x)).U.length=ctN x:=JB h3
 obtain⟨ub,uo,rfl,hu⟩:=h2.pos (by rw[e1];omega)
 rw[e1] at hE
 have kb:=h1.ck
 have ks:sv.cellOk=true:=by obtain⟨_,_,h,_⟩:=h3';exact h.ck
 have kk:=h4.ck
 have hu' :M[ub]? =some (.cells uo 1 (stC (uNm (ctN x)))):=hu
 have ul:(uNm (ctN x)).length=ctN x:=JB h3
 rw[e1]
 have hN:∀Z,ACallsTo Tryz.prog 160 [.agg ((xe x s.P.length (ctN x)).cells b (.slice ub 0 (ctN x) none) sv kn)] (M++Z) (.int .i64 ((ctN x:Int)-1)) (M++Z):=fun Z=>DQ kb rfl ks kk (by omega)
 have hpos:=fun Z=>iu eJ.1 rfl hCk hp ht hE hN (by decide) (by decide) n Z
 refine fp (P:=loK 1≤n∧n≤(ctN x:Int)-1) (o:=if n= -2 then some [] else if 0≤n then some ((uNm (ctN x)).getD n.toNat []) else none) (R:=idM) (v:=v0) hE hpos (fun Z=>?_) (fun hP Z k=>?_) (fun hP Z k=>?_)
 ·exact kz (M:=M++Z) (c:=xe x s.P.length (ctN x)) (nu:=ctN x) (nk:=0) (kb:=0) (.inl rfl) kb rfl ks kk (fun _=>rfl) (fun h=>absurd h (kne 1 rfl (by decide))) (by omega) (fun _=>JY (fN hu' Z))
 ·have:=xW (M:=M++Z) (pv:=.slice p 0 s.P.length none) (tv:=.slice t 0 s.T.length none) (c:=xe x s.P.length (ctN x)) (us:=uNm (ctN x)) (x:=n) ⟨rfl,rfl⟩ rfl kb (u:=.slice ub 0 (ctN x) none) (by rw[ul]) ks kk (fN hu' Z) (by rw[ul];omega) (by rw[ul];omega) k
  exact this
 ·exact kh ⟨rfl,rfl⟩ (.inl (.inl rfl)) kb rfl ks kk k
theorem Ix(h:x.kind%5=1) (hp:M[p]? =some (.cells o 2 (pC s.P))) (ht:M[t]? =some (.cells o' 3 (tC s.T))) (hE:EvAt M ev (cSk x s.P.length)) (n:Int):dH M (gF s p t) ev n:=by
 have hCk:=nj s x
 rw[Se h] at hE hCk
 obtain⟨b,u,sv,kn,rfl,h1,h2,h3,h4⟩:=id hE
 obtain rfl:=h1.nil0 rfl;obtain rfl:=h2.nil0 rfl;obtain rfl:=h3.nil0 rfl;obtain rfl:=h4.nil0 rfl
 have hN:∀Z,ACallsTo Tryz.prog 165 [.agg ((fc [110] (zQ (dQ x)) (hQ (fD (x.n 6))) (hV (tQ x))).cells .nilslice .nilslice .nilslice .nilslice)] (M++Z) (.int .i64 1) (M++Z):=fun Z=>DR rfl rfl rfl rfl
 have hpos:=fun Z=>iu eJ.2.1 rfl hCk hp ht hE hN (by decide) (by decide) n Z
 have hlow:=fun Z=>kz (M:=M++Z) (c:=fc [110] (zQ (dQ x)) (hQ (fD (x.n 6))) (hV (tQ x))) (nu:=0) (nk:=0) (ub:=0) (kb:=0) (n:=n) (.inr (.inl rfl)) (b:=.nilslice) (u:=.nilslice) (sv:=.nilslice) (kn:=.nilslice) rfl rfl rfl rfl (fun h=>absurd h (kne 2 rfl (by decide))) (fun h=>absurd h (kne 2 rfl (by decide))) (by omega) (fun h=>absurd h (kne 2 rfl (by decide)))
 have lo:loK 2=0:=rfl
 by_cases hx0:n=0
 ·refine fp (P:=loK 2≤n∧n≤1) (o:=none) (R:=idM) (v:=v0) hE hpos hlow (fun hP Z k=>?_) (fun hP Z k=>?_)
  ·exact ib ⟨rfl,rfl⟩ ⟨kne 2 rfl (by decide),kne 2 rfl (by decide)⟩ rfl rfl rfl rfl k
  ·exact kh ⟨rfl,rfl⟩ (.inr ⟨rfl,hx0⟩) rfl rfl rfl rfl k
 ·refine fp (P:=loK 2≤n∧n≤1) (o:=none) (R:=idM) (v:=AU v0 (By (hV (tQ x)) (-1))) hE hpos hlow (fun hP Z k=>?_) (fun hP Z k=>?_)
  ·exact ib ⟨rfl,rfl⟩ ⟨kne 2 rfl (by decide),kne 2 rfl (by decide)⟩ rfl rfl rfl rfl k
  ·have hx1:n=1:=by omega
   subst hx1
   exact tW ⟨rfl,rfl⟩ ((RH (yK x) (k:=3) (by decide) (by decide)).mono (by omega)) k
theorem Iy(h:x.kind%5=2) (hp:M[p]? =some (.cells o 2 (pC s.P))) (ht:M[t]? =some (.cells o' 3 (tC s.T))) (hE:EvAt M ev (cSk x s.P.length)) (n:Int):dH M (gF s p t) ev n:=by
 have hCk:=nj s x
 rw[Sf h] at hE hCk
 have hc:=sO x
 have hkl:(x.knots (ctM x)).length=ctM x:=Sketch.knots_length x _
 have hbg:Rx 2 (x.knots (ctM x)):=fun q hq=>GZ (by omega) hq
 have hbg4:Rx 40 (x.knots (ctM x)):=fun q hq=>⟨(hbg q hq).1.mono (by decide),(hbg q hq).2.mono (by decide)⟩
 obtain⟨b,u,sv,kn,rfl,h1,h2,h3,h4⟩:=id hE
 obtain rfl:=h1.nil0 rfl;obtain rfl:=h2.nil0 rfl;obtain rfl:=h3.nil0 rfl
 have e1:(dY [110] (zQ (dQ x)) (x.knots (ctM x)) (zQ (tQ x))).K.length=ctM x:=by show(kT _).length=_;rw[kS,hkl]
 rw[e1] at h4
 obtain⟨kb,ko,rfl,hk⟩:=h4.pos (by omega)
 have hk:M[kb]? =some (.cells ko 2 (kC (kT (x.knots (ctM x))))):=hk
 have hN:∀Z,ACallsTo Tryz.prog 169 [.agg ((dY [110] (zQ (dQ x)) (x.knots (ctM x)) (zQ (tQ x))).cells .nilslice .nilslice .nilslice (.slice kb 0 (ctM x) none))] (M++Z) (.int .i64 (ctM x:Int)) (M++Z):=fun Z=>DS rfl rfl rfl rfl
 have hpos:=fun Z=>iu eJ.2.2.1 rfl hCk hp ht hE hN (by decide) (by decide) n Z
 have hlow:=fun Z=>kz (M:=M++Z) (c:=dY [110] (zQ (dQ x)) (x.knots (ctM x)) (zQ (tQ x))) (nu:=0) (nk:=ctM x) (ub:=0) (kb:=kb) (n:=n) (.inr (.inr (.inl rfl))) (b:=.nilslice) (u:=.nilslice) (sv:=.nilslice) (kn:=.slice kb 0 (ctM x) none) rfl rfl rfl rfl (fun h=>absurd h (kne 3 rfl (by decide))) (fun _=>rfl) (by omega) (fun h=>absurd h (kne 3 rfl (by decide)))
 have lo:loK 3=0:=rfl
 have ld:=fun hn=>PY (n:=n.toNat) hbg hn
 refine fp (P:=loK 3≤n∧n≤(ctM x:Int)) (o:=none) (R:=PM (zQ (dQ x)) (zQ (tQ x)) (sX (x.knots (ctM x)) n.toNat).2) (v:=AU v0 (By (zQ (tQ x)) (-(sX (x.knots (ctM x)) n.toNat).1))) hE hpos hlow (fun hP Z k=>?_) (fun hP Z k=>?_)
 ·exact ib ⟨rfl,rfl⟩ ⟨kne 3 rfl (by decide),kne 3 rfl (by decide)⟩ rfl rfl rfl rfl k
 ·obtain⟨g1,g2⟩:=ld (by rw[hkl];omega)
  refine wA ⟨rfl,rfl⟩ rfl ((OK (tx x) (k:=1) (by decide) (by decide)).mono (by omega)) ((OK (yK x) (k:=3) (by decide) (by decide)).mono (by omega)) g1 g2 (fun Z' =>?_) k
  have:=Li (Q:=x.knots (ctM x)) (n:=n.toNat) (by rw[hkl];omega) hbg4 (by rw[hkl];omega) (fun i a b ha hb=>PW ha hb) (fN (fN hk Z) Z')
  rw[hkl,Int.toNat_of_nonneg (by omega)] at this
  exact this
theorem Iz(h:x.kind%5=3) (hp:M[p]? =some (.cells o 2 (pC s.P))) (ht:M[t]? =some (.cells o' 3 (tC s.T))) (hE:EvAt M ev (cSk x s.P.length)) (n:Int):dH M (gF s p t) ev n:=by
 have hCk:=nj s x
 rw[Sg h] at hE hCk
 obtain⟨c,hc⟩:∃c,c=qq [110] (zQ (dQ x)) (hQ (fD (x.n 6))) (hQ (ps9 (x.n 7))) [110,95,114,111,99,107]:=⟨_,rfl⟩
 have ck:c.k=4:=by rw[hc];rfl
 have cl:c.B.length=0∧c.U.length=0∧c.S=[]∧c.K.length=0:=by rw[hc];exact⟨rfl,rfl,rfl,rfl⟩
 rw[←hc] at hE hCk
 obtain⟨b,u,sv,kn,rfl,h1,h2,h3,h4⟩:=id hE
 obtain rfl:=h1.nil0 cl.1;obtain rfl:=h2.nil0 cl.2.1;obtain rfl:=h3.nil0 cl.2.2.1;obtain rfl:=h4.nil0 cl.2.2.2
 have hN:∀Z,ACallsTo Tryz.prog 174 [.agg (c.cells .nilslice .nilslice .nilslice .nilslice)] (M++Z) (.int .i64 2) (M++Z):=fun Z=>DT rfl rfl rfl rfl
 have hpos:=fun Z=>iu eJ.2.2.2.1 ck hCk hp ht hE hN (by decide) (by decide) n Z
 have hlow:=fun Z=>kz (M:=M++Z) (c:=c) (nu:=0) (nk:=0) (ub:=0) (kb:=0) (n:=n) (.inr (.inr (.inr (.inl ck)))) (b:=.nilslice) (u:=.nilslice) (sv:=.nilslice) (kn:=.nilslice) rfl rfl rfl rfl (fun h=>absurd h (by omega)) (fun h=>absurd h (by omega)) (by omega) (fun h=>absurd h (by omega))
 rw[ck] at hlow
 refine fp (P:=loK 4≤n∧n≤2) (o:=if n=1 then some c.x24 else none) (R:=idM) (v:=v0) hE hpos hlow (fun hP Z k=>?_) (fun hP Z k=>?_)
 ·exact wC ⟨rfl,rfl⟩ ck rfl rfl rfl rfl k
 ·exact kh ⟨rfl,rfl⟩ (.inl (.inr ck)) rfl rfl rfl rfl k
theorem IA(h:x.kind%5=4) (hp:M[p]? =some (.cells o 2 (pC s.P))) (ht:M[t]? =some (.cells o' 3 (tC s.T))) (hE:EvAt M ev (cSk x s.P.length)) (n:Int):dH M (gF s p t) ev n:=by
 have hCk:=nj s x
 rw[Sh h] at hE hCk
 obtain⟨b,u,sv,kn,rfl,h1,h2,h3,h4⟩:=id hE
 obtain rfl:=h1.nil0 rfl;obtain rfl:=h2.nil0 rfl;obtain rfl:=h3.nil0 rfl;obtain rfl:=h4.nil0 rfl
 have hN:∀Z,ACallsTo Tryz.prog 179 [.agg ((fI [110] (rV x) (zQ (dQ x))).cells .nilslice .nilslice .nilslice .nilslice)] (M++Z) (.int .i64 0) (M++Z):=fun Z=>DU rfl rfl rfl rfl
 have hpos:=fun Z=>iu eJ.2.2.2.2 rfl hCk hp ht hE hN (by decide) (by decide) n Z
 have hlow:=fun Z=>kz (M:=M++Z) (c:=fI [110] (rV x) (zQ (dQ x))) (nu:=0) (nk:=0) (ub:=0) (kb:=0) (n:=n) (.inr (.inr (.inr (.inr rfl)))) (b:=.nilslice) (u:=.nilslice) (sv:=.nilslice) (kn:=.nilslice) rfl rfl rfl rfl (fun h=>absurd h (kne 5 rfl (by decide))) (fun h=>absurd h (kne 5 rfl (by decide))) (by omega) (fun h=>absurd h (kne 5 rfl (by decide)))
 refine fp (P:=loK 5≤n∧n≤0) (o:=none) (R:=HH (tH (rV x) true)) (v:=MK (zQ (dQ x)) (G6 (HH (tH (rV x) true)) (zQ (dQ x)))) hE hpos hlow (fun hP Z k=>?_) (fun hP Z k=>?_)
 ·exact ib ⟨rfl,rfl⟩ ⟨kne 5 rfl (by decide),kne 5 rfl (by decide)⟩ rfl rfl rfl rfl k
 ·exact wB [110] (Kp x) (Kq x) ((OK (tx x) (k:=1) (by decide) (by decide)).mono (by omega)) ⟨rfl,rfl⟩ k
theorem Iv(hp:M[p]? =some (.cells o 2 (pC s.P))) (ht:M[t]? =some (.cells o' 3 (tC s.T))) (n:Int):dH (M++MJ M.length x s.P.length) (gF s p t) (QY M.length x s.P.length) n:=by
 have hE:=ND x s.P.length (qc s).1 M
 have hp:=fN hp (MJ M.length x s.P.length)
 have ht:=fN ht (MJ M.length x s.P.length)
 rcases pO x.kind with h | h | h | h | h
 ·exact Iw h hp ht hE n
 ·exact Ix h hp ht hE n
 ·exact Iy h hp ht hE n
 ·exact Iz h hp ht hE n
 ·exact IA h hp ht hE n
end
end Go.Proofs
