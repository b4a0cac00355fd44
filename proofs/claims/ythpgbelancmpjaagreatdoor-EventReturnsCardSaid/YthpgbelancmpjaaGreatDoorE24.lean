/- See E54. -/
import Derived.Test.YthpgbelancmpjaaGreatDoorE23
set_option linter.all false
set_option maxRecDepth 100000
set_option maxHeartbeats 40000000
namespace Go.Proofs
open Go.Eng
end Go.Proofs
namespace Go.Proofs
open Go.Eng
open Tryz
variable{M:Mem}{b es:Nat}{cs l:List AV}{o:Bool}
theorem Xn{ks:List Nat}(hc:AV.aej cs=true)(h:M[b]? =some (.cells o es l))(H:l.take cs.length=cs):ae2 ks M b (.cells false es cs):=by
 refine⟨aX hc,o,l,h,fun j v Z=>?_⟩;have U:=gL Z;have e:l[j]? =cs[j]? :=by rw[←List.getElem?_take_of_lt U,H]
 have X:=aL (ρ:=fq ks M.length) hc;rw[gw] at X;have V:(cs.map (AV.ren (fq ks M.length)))[j]? =cs[j]? :=by rw[X]
 rw[List.getElem?_map,Z] at V;rw[e,Z];exact V.symm
theorem Nj{v:AV}{f:Nat→Option Nat}(h:v.closed=true):v.ren f=v:=by have:=aL (vs:=[v]) (ρ:=f) (by simp[AV.aej,h]);simpa [AV.aez] using this
variable{P:Program}{f:FuncId}{n:Nat}{r:Option Nat}{rest:List AV}
theorem aff{v:AV}(hc:AV.aej cs=true)(hr:AV.aej rest=true)(I:v.closed=true)(H:M[b]? =some (.cells o es l))(J:l.take cs.length=cs)(h:kO P f (.slice 0 0 n r::rest) [.cells false es cs] v [.cells false es cs]):kO P f (.slice b 0 n r::rest) M v M:=by
 have X:=gL H;have V:AV.aen [b].length (.slice 0 0 n r::rest)=true:=by
  show(decide (0<1)&&AV.aen 1 rest)=true
  rw[aX hr];rfl
 have:=kO.frame (M:=M) (new:=[]) [b] (m:=[.cells false es cs]) rfl (by simpa using X) V (fun i s Z=>by
  cases i with
  |zero=>simp at Z;subst Z;exact Xn hc H J
  |succ i=>simp at Z) rfl (by simpa using h)
 simpa [AV.aez,AV.ren,fq,aL hr,Nj I] using this
def sC(L:List (List UInt8)):List AV:=L.map .str
theorem KQ(L:List (List UInt8)):(sC L).length=L.length:=by simp[sC]
theorem Ch:∀L:List (List UInt8),AV.aej (sC L)=true
 | []=>rfl
 |s::L=>by simp[sC,AV.aej,AV.closed];exact Ch L
def rP:List AV→Option (List (List UInt8))
 | []=>some []
 |.str a::l=>match rP l with
  |some r=>some (a::r)
  |none=>none
 |_=>none
theorem Cn:∀{cs:List AV} {L:List (List UInt8)},rP cs=some L→cs=sC L
 | [],L,h=>by cases h;rfl
 |v::l,L,h=>by
  unfold rP at h;split at h
  next Z=>cases Z
  ·rename_i Z
   cases Z;split at h
   ·rename_i r X
    cases h;rw[Cn X];rfl
   ·cases h
  ·cases h
def pL(M:Mem):AV→Option (List (List UInt8))
 |.slice b 0 n none=>match M[b]? with
  |some (.cells _ 1 cs)=>if n≤cs.length then rP (cs.take n) else none
  |_=>none
 |.qF=>some []
 |_=>none
variable{L:List (List UInt8)}{x:AV}
theorem Nu(h:pL M x=some L):(∃b o l,x=.slice b 0 L.length none∧M[b]? =some (.cells o 1 l)∧l.take L.length=sC L)∨(x=.qF∧L=[]):=by
 unfold pL at h;split at h
 ·rename_i b n
  split at h
  ·rename_i o cs X
   split at h
   ·rename_i U
    have Z:=Cn h;have V:n=L.length:=by have:=congrArg List.length Z;rw[KQ,List.length_take] at this;omega
    subst V;exact .inl ⟨b,o,cs,rfl,X,Z⟩
   ·cases h
  ·cases h
 ·cases h;exact .inr ⟨rfl,rfl⟩
 ·cases h
theorem Vm{v:AV}(hr:AV.aej rest=true)(H:v.closed=true)(I:pL M x=some L)(h:kO P f (.slice 0 0 L.length none::rest) [.cells false 1 (sC L)] v [.cells false 1 (sC L)])(h0:L=[]→kO P f (.qF::rest) M v M):kO P f (x::rest) M v M:=by
 rcases Nu I with⟨b,o,l,rfl,Z,X⟩ | ⟨rfl,V⟩
 ·exact aff (Ch L) hr H Z (by rw[KQ];exact X) h
 ·exact h0 V
theorem Xm{i:Nat}{s:List UInt8}(h:L[i]? =some s):(sC L)[i]? =some (.str s):=by simp[sC,h]
def sP:List (List UInt8)→Int
 | []=>0
 |s::l=>if zV s=0 then sP l else zV s
variable{K:Nat}
theorem xf(L:List (List UInt8))(I:∀s∈L,s.length≤1000000000)(J:L.length≤1000000000)(W:L.length<K){b:Code}(H:ah f97=[b]):
  ∃F:Env→Bool→Env,∀Z d,(ad Z 6=.slice 0 0 L.length none∧ad Z 7=.int .i64 L.length∧ad Z 8=.int .i64 0∧ad Z 2=.int .i64 0)→
   aS (aV prog) (fun _=>[8]) (ag aE) K 18 1 true (.loop b) ⟨Z,[.cells false 1 (sC L)],d⟩=some (if sP L=0 then .exit 0 else .ret,⟨F Z d,[.cells false 1 (sC L)],d⟩)∧(sP L≠0→ad (F Z d) 2=.int .i64 (sP L)):=by
 refine bw rfl (fun Z=>ad Z 6=.slice 0 0 L.length none∧ad Z 7=.int .i64 L.length∧ad Z 8=.int .i64 0∧ad Z 2=.int .i64 0) (fun _ G =>sP L≠0→ad G 2=.int .i64 (sP L)) ?_;rintro Z d ⟨h6,h7,h8,S⟩;simp[ah,aG,f97] at H;have R:aw [8] (ae b) Z ((8,.int .i64 ((0:Nat):Int))::Z)=aw [8] (ae b) Z Z:=by simp[aw,h8]
 rw[←R];refine bO (α:=Nat) (fun n=>⟨aw [8] (ae b) Z ((8,.int .i64 (n:Int))::Z),[.cells false 1 (sC L)],d⟩) (fun n=>L.length-n) (fun n=>n≤L.length∧sP L=sP (L.drop n)) (if sP L=0 then .exit 0 else .ret) _ d _ (by split<;>simp) ?_ K 0 ⟨by omega,by rw[List.drop_zero]⟩ (by omega);rintro n ⟨Y9,he⟩;clear R;subst H;by_cases X:n<L.length
 ·obtain⟨s,V⟩:∃s,L[n]? =some s:=⟨L[n],List.getElem?_eq_getElem X⟩
  have O:=Xm V;have N:=I s (List.mem_of_getElem? V);have D:L.drop n=s::L.drop (n+1):=by rw[List.getElem?_eq_some_iff] at V;obtain⟨C,S⟩:=V;rw[←S];exact List.drop_eq_getElem_cons C
  rw[D,sP] at he;have w1:IntKind.i64.wrap ((n:Int)+1)=((n+1:Nat):Int):=by rw[af];omega
  by_cases U:zV s=0
  ·rw[if_pos U] at he
   left;obtain⟨v,B⟩:=xE (n+1);rw[←B] at w1 he;refine⟨v,?_⟩;simp[h6,h7,X,ag,aE,N,U,O,w1];exact⟨⟨by omega,he⟩,by omega⟩
  ·rw[if_neg U] at he
   right;rw[he];simp[h6,h7,X,ag,aE,N,U,O]
 ·right
  have e:L.drop n=[]:=List.drop_of_length_le (by omega);rw[e,sP] at he;rw[he];simp[h7,X]
theorem Ex(L:List (List UInt8))(H:∀s∈L,s.length≤1000000000)(I:L.length≤1000000000):
  kO prog 97 [.slice 0 0 L.length none] [.cells false 1 (sC L)] (.int .i64 (sP L)) [.cells false 1 (sC L)]:=by
 have O:aT prog 97=some f97:=by kernel_rfl
 obtain⟨b,U⟩:∃b,ah f97=[b]:=⟨_,rfl⟩
 obtain⟨F,Z⟩:=xf (K:=L.length+1) L H I (by omega) U;simp[ah,aG,f97] at U;subst U;refine ca (lv:=(fun _=>[8])) (K:=(L.length+1)) bK ?_;by_cases V:sP L=0
 ·rw[if_pos V] at Z
  have S:=fun X d h=>(Z X d h).1
  clear Z;simp[aa,O,f97,S,V]
 ·rw[if_neg V] at Z
  have S:=fun X d h=>(Z X d h).1
  have R:=fun X d h=>(Z X d h).2 V
  clear Z;simp[aa,O,f97,S,R]
theorem za(M:Mem):kO prog 97 [.qF] M (.int .i64 0) M:=by
 have Z:aT prog 97=some f97:=by kernel_rfl
 refine cE (az _) (lv:=fun _=>[8]) (K:=1) rfl rfl ?_ M;simp[aa,Z,f97,bh,fy]
def rT(Q:List Rat):List (List UInt8):=Q.map aj
def Ae(Q:List Rat)(s:Rat):Rat:=Q.foldl (·+·) s
def Gl:List Rat→Rat→Prop
 | [],s=>dc s
 |q::l,s=>dc s∧dc q∧Gl l (s+q)
section
variable (Q:List Rat)(hQ:Gl Q 0)(hl:Q.length≤1000000000)
include Q hQ hl
theorem Fs(I:Q.length<K){b:Code}(H:ah f117=[b]):
  ∃F:Env→Bool→Env,∀Z d,(ad Z 6=.slice 0 0 Q.length r∧ad Z 7=.int .i64 Q.length∧ad Z 8=.int .i64 0∧ad Z 3=.str [48])→
   aS (aV prog) (fun _=>[3,8]) (ag aE) K 17 1 true (.loop b) ⟨Z,[.cells false es (sC (rT Q))],d⟩=some (.exit 0,⟨F Z d,[.cells false es (sC (rT Q))],d⟩)∧ad (F Z d) 3=.str (aj (Ae Q 0)):=by
 refine bw rfl (fun Z=>ad Z 6=.slice 0 0 Q.length r∧ad Z 7=.int .i64 Q.length∧ad Z 8=.int .i64 0∧ad Z 3=.str [48]) (fun _ O =>ad O 3=.str (aj (Ae Q 0))) ?_;rintro Z d ⟨h6,h7,h8,h3⟩;simp[ah,aG,f117] at H;have z:aj 0=[48]:=rfl;have R:aw [3,8] (ae b) Z ((3,.str (aj (Ae (Q.take 0) 0)))::(8,.int .i64 ((0:Nat):Int))::Z)=aw [3,8] (ae b) Z Z:=by simp[aw,h8,h3,Ae,z]
 rw[←R];refine bO (α:=Nat) (fun n=>⟨aw [3,8] (ae b) Z ((3,.str (aj (Ae (Q.take n) 0)))::(8,.int .i64 (n:Int))::Z),[.cells false es (sC (rT Q))],d⟩) (fun n=>Q.length-n) (fun n=>n≤Q.length∧Gl (Q.drop n) (Ae (Q.take n) 0)) (.exit 0) _ d _ (by simp) ?_ K 0 ⟨by omega,by simpa [Ae] using hQ⟩ (by omega);rintro n ⟨Y9,X⟩;clear R;subst H;by_cases S:n<Q.length
 ·obtain⟨q,U⟩:∃s,Q[n]? =some s:=⟨Q[n],List.getElem?_eq_getElem S⟩
  have N:(sC (rT Q))[n]? =some (.str (aj q)):=by simp[sC,rT,U]
  have G:Q.drop n=q::Q.drop (n+1):=by rw[List.getElem?_eq_some_iff] at U;obtain⟨D,C⟩:=U;rw[←C];exact List.drop_eq_getElem_cons D
  have V:Ae (Q.take (n+1)) 0=Ae (Q.take n) 0+q:=by rw[List.take_add_one,U];simp[Ae]
  rw[G,Gl,←V] at X;obtain⟨⟨f1,f2⟩,⟨f3,f4⟩,X⟩:=X;have w1:IntKind.i64.wrap ((n:Int)+1)=((n+1:Nat):Int):=by rw[af];omega
  left;obtain⟨v,B⟩:=xE (n+1);rw[←B] at w1 X V;obtain⟨s,A⟩:=xE (Ae (Q.take n) 0);rw[←A] at f1 f2 V ⊢;refine⟨v,?_⟩;simp[h6,h7,S,ag,aE,aH,ar,f1,f2,f3,f4,N,w1,V];exact⟨⟨by omega,by rw[←V];exact X⟩,by omega⟩
 ·right
  have e:Q.take n=Q:=List.take_of_length_le (by omega);rw[e];simp[h7,S]
theorem Du:
  kO prog 117 [.slice 0 0 Q.length r] [.cells false es (sC (rT Q))] (.str (aj (Ae Q 0))) [.cells false es (sC (rT Q))]:=by
 have X:aT prog 117=some f117:=by kernel_rfl
 obtain⟨b,Z⟩:∃b,ah f117=[b]:=⟨_,rfl⟩
 obtain⟨F,V⟩:=Fs (es:=es) (r:=r) (K:=Q.length+1) Q hQ hl (by omega) Z;simp[ah,aG,f117] at Z;subst Z;refine ca (lv:=(fun _=>[3,8])) (K:=(Q.length+1)) bK ?_;simp[aa,X,f117,V]
theorem O0:
  kO prog 117 [.slice 0 0 Q.length none] [.cells false 1 (sC (rT Q))] (.str (aj (Ae Q 0))) [.cells false 1 (sC (rT Q))]:=Du Q hQ hl
end
def KG:List (List UInt8)→Option (List Rat)
 | []=>some []
 |k::l=>match ek k,KG l with
  |some a,some r=>some (a::r)
  |_,_=>none
theorem DW:∀{L:List (List UInt8)} {Q:List Rat},KG L=some Q→L=rT Q
 | [],Q,h=>by cases h;rfl
 |k::L,Q,h=>by
  unfold KG at h;split at h
  ·rename_i a r Z h3
   cases h;rw[DW h3,aA Z];rfl
  ·cases h
open Classical in
noncomputable def gW:y9:=fun c Z M=>match c,Z with
 |.fn 97,[x]=>match pL M x with
  |some L=>if (∀s∈L,s.length≤1000000000)∧L.length≤1000000000 then some ⟨.int .i64 (sP L),none,[]⟩ else none
  |none=>none
 |.fn 117,[x]=>match pL M x with
  |some L=>match KG L with
   |some Q=>if Gl Q 0∧Q≠[]∧Q.length≤1000000000 then some ⟨.str (aj (Ae Q 0)),none,[]⟩ else none
   |none=>none
  |none=>none
 |c,Z=>ag aE c Z M
theorem gj:qS prog gW:=by
 refine cq fun c S M r h=>?_
 unfold gW at h;split at h
 ·split at h
  ·rename_i L V
   split at h
   ·rename_i X
    cases h;refine aC ?_;rw[List.append_nil];exact Vm (rest:=[]) rfl rfl V (Ex L X.1 X.2) (fun Z=>by subst Z;exact za M)
   ·cases h
  ·cases h
 ·split at h
  ·rename_i L V
   split at h
   ·rename_i Q hQ
    split at h
    ·rename_i X
     cases h;refine aC ?_;rw[List.append_nil];have U:=DW hQ;subst U;have:=O0 Q X.1 X.2.2;have R:(rT Q).length=Q.length:=by simp[rT]
     rw[←R] at this;exact Vm (rest:=[]) rfl rfl V this (fun Z=>by
      cases Q with
      |nil=>exact absurd rfl X.2.1
      |cons q Q=>cases Z)
    ·cases h
   ·cases h
  ·cases h
 ·exact eW bK h
abbrev Kw:Nat:=1000000000
theorem ly(a b c:List UInt8)(H:a.length≤1000000000)(I:b.length≤1000000000)(hc:c.length≤1000000000)(M:Mem):
  kO prog 70 [.agg [.str a,.str b,.str c]] M (.int .i64 (sP [a,b,c])) M:=by
 have Z:aT prog 70=some f70:=by kernel_rfl
 refine ak gj ?_ M;simp[aa,Z,f70,gW,pL,rP,H,I,hc]
theorem gA(a b:List UInt8)(H:a.length≤1000000000)(I:b.length≤1000000000)(M:Mem):
  kO prog 47 [.agg [.str a,.str b]] M (.int .i64 (sP [a,b])) M:=by
 have Z:aT prog 47=some f47:=by kernel_rfl
 refine ak gj ?_ M;simp[aa,Z,f47,gW,pL,rP,H,I]
abbrev V3:=Rat×Rat×Rat
def vA(v:V3):AV:=.agg [.str (aj v.1),.str (aj v.2.1),.str (aj v.2.2)]
def vDg(n:Nat)(v:V3):Prop:=dg n n v.1∧dg n n v.2.1∧dg n n v.2.2
def dj(a b:V3):Rat:=a.1*b.1+a.2.1*b.2.1+a.2.2*b.2.2
variable{q:Rat}
theorem cO{d:Nat}(h:dg n d q)(H:0<n)(hd:0<d)(h1:n≤40000)(h2:d≤40000):dc q:=by have:=h.lens H hd;exact⟨by omega,by omega⟩
theorem OJ(a b:V3)(ha:vDg 3000 a)(hb:vDg 3000 b)(M:Mem):kO prog 113 [vA a,vA b] M (.str (aj (dj a b))) M:=by
 have hG:aT prog 113=some f113:=by kernel_rfl
 obtain⟨V,U,S⟩:=a;obtain⟨R,O,N⟩:=b;obtain⟨G,F,D⟩:=ha;obtain⟨C,B,A⟩:=hb;simp only at G F D C B A;have u:=dE G C;have P2:=dE F B;have j:=dE D A;have Z:dg 1 1 0:=⟨by decide,by decide⟩;have Y:=pq Z u (m:=6001) (by omega) (by omega);have W:=pq Y P2 (m:=12003) (by omega) (by omega);have H:=pq W j (m:=18004) (by omega) (by omega);have hs:Gl [V*R,U*O,S*N] 0:=
  ⟨cO Z (by omega) (by omega) (by omega) (by omega),cO u (by omega) (by omega) (by omega) (by omega),cO Y (by omega) (by omega) (by omega) (by omega),cO P2 (by omega) (by omega) (by omega) (by omega),
   cO W (by omega) (by omega) (by omega) (by omega),cO j (by omega) (by omega) (by omega) (by omega),cO H (by omega) (by omega) (by omega) (by omega)⟩
 have X8:Ae [V*R,U*O,S*N] 0=V*R+U*O+S*N:=by simp[Ae,Rat.zero_add]
 obtain⟨f1,f2⟩:=cO G (by omega) (by omega) (by omega) (by omega);obtain⟨f3,f4⟩:=cO F (by omega) (by omega) (by omega) (by omega);obtain⟨f5,f6⟩:=cO D (by omega) (by omega) (by omega) (by omega);obtain⟨g1,g2⟩:=cO C (by omega) (by omega) (by omega) (by omega);obtain⟨g3,g4⟩:=cO B (by omega) (by omega) (by omega) (by omega);obtain⟨g5,g6⟩:=cO A (by omega) (by omega) (by omega) (by omega);clear u P2 j Y W H G F D C B A Z;unfold dj;simp only;obtain⟨p,hp⟩:=xE (V*R);obtain⟨q,hq⟩:=xE (U*O);obtain⟨r,hr⟩:=xE (S*N);rw[←hp,←hq,←hr] at hs X8 ⊢;refine ak gj ?_ M;obtain⟨X,J⟩:∃X,aJ f113=[X]:=⟨_,rfl⟩
 have UV:=kN J (l:=[0,1,0,4,15,0,32,0,128,511,0,1024,0,4096,16383,32767,65535,131071]) (by kernel_rfl);have I:ML [0,1,0,4,15,0,32,0,128,511,0,1024,0,4096,16383,32767,65535,131071] 18 15=true:=by decide
 simp[aJ,bR,f113] at J;subst J;simp[aa,hG,f113,-aK,kY UV,mi,sX,Bj,cM,I,vA,gW,pL,rP,KG,ar,ag,aE,aH,f1,f2,f3,f4,f5,f6,g1,g2,g3,g4,g5,g6,←hp,←hq,←hr,hs,X8,Nat.testBit]
theorem B7:aj 0=[48]:=rfl
theorem KF:aj q=[48]↔q=0:=by
 constructor
 ·intro h
  have:=ar q;rw[h,←B7,ar] at this;exact(Option.some.inj this).symm
 ·rintro rfl;rfl
theorem gJ{a b:Rat}(h:aj a=aj b):a=b:=by have:=ar a;rw[h,ar] at this;exact(Option.some.inj this).symm
theorem gm(h:dg 200 200 q):zV (aj q)=0:=by unfold zV;rw[ar];exact if_pos (h.lens (by decide) (by decide))
theorem iM(h:dg n n q)(h0:0<n)(h1:n≤40000):(aj q).length≤1000000000:=jt (cO h h0 h0 h1 h1)
variable{v:V3}
theorem Sk(h:vDg 200 v):sP [aj v.1,aj v.2.1,aj v.2.2]=0:=by simp[sP,gm h.1,gm h.2.1,gm h.2.2]
theorem vDg.mono{m:Nat}(h:vDg n v)(H:n≤m):vDg m v:=⟨h.1.mono H H,h.2.1.mono H H,h.2.2.mono H H⟩
theorem uS(v:V3)(h:vDg 200 v)(M:Mem):kO prog 70 [vA v] M (.int .i64 0) M:=by have:=ly (aj v.1) (aj v.2.1) (aj v.2.2) (iM h.1 (by decide) (by decide)) (iM h.2.1 (by decide) (by decide)) (iM h.2.2 (by decide) (by decide)) M;rw[Sk h] at this;exact this
theorem LU(a b c:List UInt8)(M:Mem):kO prog 98 [.agg [.str a,.str b,.str c]] M (.bool (a==[48]&&b==[48]&&c==[48])) M:=by
 have Z:aT prog 98=some f98:=by kernel_rfl
 refine ak (az _) ?_ M;cases h1:(a==[48])<;>cases h2:(b==[48])<;>cases h3:(c==[48])<;>simp[aa,Z,f98,h1,h2,h3]
noncomputable def qT(f:FuncId)(args:List AV):Option AV:=
 match f,args with
 |70,[.agg [.str a,.str b,.str c]]=>if a.length≤1000000000∧b.length≤1000000000∧c.length≤1000000000 then some (.int .i64 (sP [a,b,c])) else none
 |47,[.agg [.str a,.str b]]=>if a.length≤1000000000∧b.length≤1000000000 then some (.int .i64 (sP [a,b])) else none
 |98,[.agg [.str a,.str b,.str c]]=>some (.bool (a==[48]&&b==[48]&&c==[48]))
 |113,[.agg [.str a,.str b,.str c],.agg [.str d,.str e,.str f]]=>match ek a,ek b,ek c,ek d,ek e,ek f with
  |some a,some b,some c,some d,some e,some f=>if (au a.num.natAbs).length≤2999∧(au a.den).length≤2999∧(au b.num.natAbs).length≤2999∧(au b.den).length≤2999∧(au c.num.natAbs).length≤2999∧(au c.den).length≤2999∧
    (au d.num.natAbs).length≤2999∧(au d.den).length≤2999∧(au e.num.natAbs).length≤2999∧(au e.den).length≤2999∧(au f.num.natAbs).length≤2999∧(au f.den).length≤2999 then some (.str (aj (a*d+b*e+c*f))) else none
  |_,_,_,_,_,_=>none
 |_,_=>none
theorem cQ(h:(au q.num.natAbs).length≤n∧(au q.den).length≤n):dg n n q:=by have Z:=cm q.num.natAbs;have X:=cm q.den;have h3:10 ^ (au q.num.natAbs).length≤10 ^ n:=Nat.pow_le_pow_right (by omega) h.1;have V:10 ^ (au q.den).length≤10 ^ n:=Nat.pow_le_pow_right (by omega) h.2;exact⟨by omega,by omega⟩
theorem yx:qS prog (ag qT):=bM fun f S v h mem=>by
 unfold qT at h;split at h
 ·split at h
  next Z=>cases h;exact ly _ _ _ Z.1 Z.2.1 Z.2.2 mem
  ·cases h
 ·split at h
  next Z=>cases h;exact gA _ _ Z.1 Z.2 mem
  ·cases h
 ·cases h;exact LU _ _ _ mem
 ·split at h
  ·rename_i a b c d e f R O Z N G F
   split at h
   ·rename_i D
    obtain⟨C,B,A,u,m,j,Y,W,J,X,V,U⟩:=D;cases h;rw[aA R,aA O,aA Z,aA N,aA G,aA F];exact OJ (a,b,c) (d,e,f) ⟨(cQ ⟨C,B⟩).mono (by omega) (by omega),(cQ ⟨A,u⟩).mono (by omega) (by omega),(cQ ⟨m,j⟩).mono (by omega) (by omega)⟩
     ⟨(cQ ⟨Y,W⟩).mono (by omega) (by omega),(cQ ⟨J,X⟩).mono (by omega) (by omega),(cQ ⟨V,U⟩).mono (by omega) (by omega)⟩ mem
   ·cases h
  ·cases h
 ·cases h
noncomputable def Jx:y9:=y9.or (ag qT) gW
theorem Jy:qS prog Jx:=qS.or yx gj
def pT(a b:V3):V3:=(a.1+b.1,a.2.1+b.2.1,a.2.2+b.2.2)
def Dp(a:V3)(k:Rat):V3:=(a.1*k,a.2.1*k,a.2.2*k)
def vF(a:V3):Prop:=dc a.1∧dc a.2.1∧dc a.2.2
def kM(a b:V3):Prop:=vF a∧vF b∧Gl [a.1*b.1,a.2.1*b.2.1,a.2.2*b.2.2] 0
def vC(v:V3):Prop:=sP [aj v.1,aj v.2.1,aj v.2.2]=0∧(aj v.1).length≤1000000000∧(aj v.2.1).length≤1000000000∧(aj v.2.2).length≤1000000000
theorem RI:dc 0:=⟨by decide,by decide⟩
theorem fe(h:dg n n q)(h0:0<n)(h1:n≤40000):dc q:=cO h h0 h0 h1 h1
theorem La(h:vDg n v)(h0:0<n)(h1:n≤40000):vF v:=⟨fe h.1 h0 h1,fe h.2.1 h0 h1,fe h.2.2 h0 h1⟩
theorem nt(h:vDg 200 v):vC v:=⟨Sk h,iM h.1 (by decide) (by decide),iM h.2.1 (by decide) (by decide),iM h.2.2 (by decide) (by decide)⟩
theorem gD{a b:V3}(H:vDg n a)(I:vDg n b)(h0:0<n)(h1:n≤4000):kM a b:=by
 obtain⟨X,V,U⟩:=H;obtain⟨S,R,O⟩:=I;have N:=dE X S;have P2:=dE V R;have G:=dE U O;have Z:dg 1 1 0:=⟨by decide,by decide⟩;have F:=pq Z N (m:=3*n+3) (by omega) (by omega);have D:=pq F P2 (m:=6*n+6) (by omega) (by omega);have C:=pq D G (m:=9*n+9) (by omega) (by omega);have f:∀{x y:Nat}{q:Rat},dg x y q→0<x→0<y→x≤40000→y≤40000→dc q:=fun h p q r s=>cO h p q r s
 exact⟨La ⟨X,V,U⟩ h0 (by omega),La ⟨S,R,O⟩ h0 (by omega),RI,f N (by omega) (by omega) (by omega) (by omega),f F (by omega) (by omega) (by omega) (by omega),f P2 (by omega) (by omega) (by omega) (by omega),f D (by omega) (by omega) (by omega) (by omega),f G (by omega) (by omega) (by omega) (by omega),f C (by omega) (by omega) (by omega) (by omega)⟩
def v3P(a b c:List UInt8):Option V3:=match ek a,ek b,ek c with
 |some x,some y,some z=>some (x,y,z)
 |_,_,_=>none
theorem uJ(x y z:Rat):v3P (aj x) (aj y) (aj z)=some (x,y,z):=by simp only[v3P,ar]
theorem ke{a b c:List UInt8}(h:v3P a b c=some v):a=aj v.1∧b=aj v.2.1∧c=aj v.2.2:=by
 unfold v3P at h;split at h
 ·rename_i x y z Z X V
  cases h;exact⟨aA Z,aA X,aA V⟩
 ·cases h
theorem Dt(a b:V3)(h:kM a b)(M:Mem):kO prog 113 [vA a,vA b] M (.str (aj (dj a b))) M:=by
 have J:aT prog 113=some f113:=by kernel_rfl
 obtain⟨X,V,U⟩:=a;obtain⟨S,R,O⟩:=b;obtain⟨⟨⟨f1,f2⟩,⟨f3,f4⟩,f5,f6⟩,⟨⟨D,C⟩,⟨g3,B⟩,A,u⟩,N⟩:=h;simp only at f1 f2 f3 f4 f5 f6 D C g3 B A u N;have m:Ae [X*S,V*R,U*O] 0=X*S+V*R+U*O:=by simp[Ae,Rat.zero_add]
 unfold dj;simp only;obtain⟨p,j⟩:=xE (X*S);obtain⟨q,Y⟩:=xE (V*R);obtain⟨r,W⟩:=xE (U*O);rw[←j,←Y,←W] at N m ⊢;refine ak gj ?_ M;obtain⟨Z,G⟩:∃Z,aJ f113=[Z]:=⟨_,rfl⟩
 have I:=kN G (l:=[0,1,0,4,15,0,32,0,128,511,0,1024,0,4096,16383,32767,65535,131071]) (by kernel_rfl);have F:ML [0,1,0,4,15,0,32,0,128,511,0,1024,0,4096,16383,32767,65535,131071] 18 15=true:=by decide
 simp[aJ,bR,f113] at G;subst G;simp[aa,J,f113,-aK,kY I,mi,sX,Bj,cM,F,vA,gW,pL,rP,KG,ar,ag,aE,aH,f1,f2,f3,f4,f5,f6,D,C,g3,B,A,u,←j,←Y,←W,N,m,Nat.testBit]
theorem OH(a b:V3)(h:kM a b)(M:Mem):kO prog 259 [vA a,vA b] M (.str (aj (dj a b))) M:=by
 have J:aT prog 259=some f259:=by kernel_rfl
 obtain⟨X,V,U⟩:=a;obtain⟨S,R,O⟩:=b;obtain⟨⟨⟨f1,f2⟩,⟨f3,f4⟩,f5,f6⟩,⟨⟨D,C⟩,⟨g3,B⟩,A,u⟩,N⟩:=h;simp only at f1 f2 f3 f4 f5 f6 D C g3 B A u N;have m:Ae [X*S,V*R,U*O] 0=X*S+V*R+U*O:=by simp[Ae,Rat.zero_add]
 unfold dj;simp only;obtain⟨p,j⟩:=xE (X*S);obtain⟨q,Y⟩:=xE (V*R);obtain⟨r,W⟩:=xE (U*O);rw[←j,←Y,←W] at N m ⊢;refine ak gj ?_ M;obtain⟨Z,G⟩:∃Z,aJ f259=[Z]:=⟨_,rfl⟩
 have I:=kN G (l:=[0,1,0,4,15,0,32,0,128,511,0,1024,0,4096,16383,32767,65535,131071]) (by kernel_rfl);have F:ML [0,1,0,4,15,0,32,0,128,511,0,1024,0,4096,16383,32767,65535,131071] 18 15=true:=by decide
 simp[aJ,bR,f259] at G;subst G;simp[aa,J,f259,-aK,kY I,mi,sX,Bj,cM,F,vA,gW,pL,rP,KG,ar,ag,aE,aH,f1,f2,f3,f4,f5,f6,D,C,g3,B,A,u,←j,←Y,←W,N,m,Nat.testBit]
theorem OI(a b:V3)(h:kM a b)(M:Mem):kO prog 246 [vA a,vA b] M (.str (aj (dj a b))) M:=by
 have J:aT prog 246=some f246:=by kernel_rfl
 obtain⟨X,V,U⟩:=a;obtain⟨S,R,O⟩:=b;obtain⟨⟨⟨f1,f2⟩,⟨f3,f4⟩,f5,f6⟩,⟨⟨D,C⟩,⟨g3,B⟩,A,u⟩,N⟩:=h;simp only at f1 f2 f3 f4 f5 f6 D C g3 B A u N;have m:Ae [X*S,V*R,U*O] 0=X*S+V*R+U*O:=by simp[Ae,Rat.zero_add]
 unfold dj;simp only;obtain⟨p,j⟩:=xE (X*S);obtain⟨q,Y⟩:=xE (V*R);obtain⟨r,W⟩:=xE (U*O);rw[←j,←Y,←W] at N m ⊢;refine ak gj ?_ M;obtain⟨Z,G⟩:∃Z,aJ f246=[Z]:=⟨_,rfl⟩
 have I:=kN G (l:=[0,1,0,4,15,0,32,0,128,511,0,1024,0,4096,16383,32767,65535,131071]) (by kernel_rfl);have F:ML [0,1,0,4,15,0,32,0,128,511,0,1024,0,4096,16383,32767,65535,131071] 18 15=true:=by decide
 simp[aJ,bR,f246] at G;subst G;simp[aa,J,f246,-aK,kY I,mi,sX,Bj,cM,F,vA,gW,pL,rP,KG,ar,ag,aE,aH,f1,f2,f3,f4,f5,f6,D,C,g3,B,A,u,←j,←Y,←W,N,m,Nat.testBit]
def KD(p v:V3)(k:Rat):Prop:=(vF p∧vF v∧dc k)∧dc (k*v.1)∧dc (k*v.2.1)∧dc (k*v.2.2)
theorem U5(p v:V3)(k:Rat):pT p (Dp v k)=(p.1+k*v.1,p.2.1+k*v.2.1,p.2.2+k*v.2.2):=by unfold pT Dp;simp only[Rat.mul_comm]
theorem Ll(p v:V3)(k:Rat)(h:KD p v k)(M:Mem):kO prog 79 [vA p,vA v,.str (aj k)] M (vA (pT p (Dp v k))) M:=by
 have W:aT prog 79=some f79:=by kernel_rfl
 rw[U5];obtain⟨a1,a2,a3⟩:=p;obtain⟨J,I,H⟩:=v;obtain⟨⟨⟨⟨f1,f2⟩,⟨f3,f4⟩,f5,f6⟩,⟨⟨G,F⟩,⟨g3,D⟩,C,B⟩,k1,k2⟩,⟨Z,X⟩,⟨V,U⟩,S,R⟩:=h;simp only at f1 f2 f3 f4 f5 f6 G F g3 D C B Z X V U S R ⊢;obtain⟨x,A⟩:=xE (k*J);obtain⟨y,u⟩:=xE (k*I);obtain⟨z,m⟩:=xE (k*H);rw[←A] at Z X ⊢;rw[←u] at V U ⊢;rw[←m] at S R ⊢;refine ak bK ?_ M;obtain⟨Y,O⟩:∃Y,aJ f79=[Y]:=⟨_,rfl⟩
 obtain⟨N,j1⟩:=de O (l:=[0,1,0,0,8,28,63,0,128,0,0,1024,3711,8191,0,16384,0,0,131072,475135,1048575,2097151,4194303]) (j:=22) (by kernel_rfl) (by decide);simp[aJ,bR,f79] at O;subst O;simp[aa,W,f79,-aK,ao N,br,bk,bl,j1,vA,bJ,aD,ar,ag,aE,aH,f1,f2,f3,f4,f5,f6,G,F,g3,D,C,B,k1,k2,Z,X,V,U,S,R,←A,←u,←m,Nat.testBit]
open Classical in
noncomputable def bt(f:FuncId)(args:List AV):Option AV:=
 match f,args with
 |113,[.agg [.str a,.str b,.str c],.agg [.str d,.str e,.str g]]=>match v3P a b c,v3P d e g with
  |some u,some v=>if kM u v then some (.str (aj (dj u v))) else none
  |_,_=>none
 |259,[.agg [.str a,.str b,.str c],.agg [.str d,.str e,.str g]]=>match v3P a b c,v3P d e g with
  |some u,some v=>if kM u v then some (.str (aj (dj u v))) else none
  |_,_=>none
 |246,[.agg [.str a,.str b,.str c],.agg [.str d,.str e,.str g]]=>match v3P a b c,v3P d e g with
  |some u,some v=>if kM u v then some (.str (aj (dj u v))) else none
  |_,_=>none
 |79,[.agg [.str a,.str b,.str c],.agg [.str d,.str e,.str g],.str k]=>match v3P a b c,v3P d e g,ek k with
  |some u,some v,some x=>if KD u v x then some (vA (pT u (Dp v x))) else none
  |_,_,_=>none
 |70,[.agg [.str a,.str b,.str c]]=>if a.length≤1000000000∧b.length≤1000000000∧c.length≤1000000000 then some (.int .i64 (sP [a,b,c])) else none
 |f,args=>aE f args
theorem dm:qS prog (ag bt):=bM fun f U v h mem=>by
 unfold bt at h;split at h
 ·split at h
  ·rename_i u v X V
   split at h
   ·rename_i Z
    cases h;obtain⟨rfl,rfl,rfl⟩:=ke X;obtain⟨rfl,rfl,rfl⟩:=ke V;exact Dt u v Z mem
   ·cases h
  ·cases h
 ·split at h
  ·rename_i u v X V
   split at h
   ·rename_i Z
    cases h;obtain⟨rfl,rfl,rfl⟩:=ke X;obtain⟨rfl,rfl,rfl⟩:=ke V;exact OH u v Z mem
   ·cases h
  ·cases h
 ·split at h
  ·rename_i u v X V
   split at h
   ·rename_i Z
    cases h;obtain⟨rfl,rfl,rfl⟩:=ke X;obtain⟨rfl,rfl,rfl⟩:=ke V;exact OI u v Z mem
   ·cases h
  ·cases h
 ·split at h
  ·rename_i u v x X V S
   split at h
   ·rename_i Z
    cases h;obtain⟨rfl,rfl,rfl⟩:=ke X;obtain⟨rfl,rfl,rfl⟩:=ke V;rw[aA S];exact Ll u v x Z mem
   ·cases h
  ·cases h
 ·split at h
  next Z=>cases h;exact ly _ _ _ Z.1 Z.2.1 Z.2.2 mem
  ·cases h
 ·have:=bK.fn _ _ mem ⟨v,none,[]⟩ (by unfold ag;simp only;rw[h])
  simpa [aee.mem] using this
end Go.Proofs
