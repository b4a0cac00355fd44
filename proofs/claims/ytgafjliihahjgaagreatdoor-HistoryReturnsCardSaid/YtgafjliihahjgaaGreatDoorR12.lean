/- See R54. -/
import Derived.Test.YtgafjliihahjgaaGreatDoorR11
import Derived.Lib.ItoaLen
set_option linter.all false
namespace Go.Proofs
open Go.Eng
open Tryz
theorem OA(n:Int)(mem:Mem):kF prog 143 [.str (cf n)] mem (.int .i64 (mw n)) mem:=by
 have hG:aT prog 143=some f143:=by kernel_rfl
 refine az dP (lv:=fun _=>[]) (K:=1) rfl rfl ?_ mem;by_cases h0:n=0
 ·simp[ad,hG,f143,jW,mw,h0]
 ·by_cases h1:n<0
  ·simp[ad,hG,f143,ag,aV,jW,mM,h1,h0,mw]
  ·simp[ad,hG,f143,ag,aV,jW,mM,h1,h0,mw]
theorem M5(n:Int)(hn:dH n=true)(mem:Mem):kF prog 98 [.int .i64 n] mem (.str (cf n)) mem:=by
 have hG:aT prog 98=some f98:=by kernel_rfl
 refine az dP (lv:=fun _=>[]) (K:=1) rfl rfl ?_ mem;simp[ad,hG,f98,ag,aV,hn]
theorem EF(r c:Bool):Ax (aM prog) 240 r c .nilIface .nilIface=if r||c then some true else none:=Ph (by kernel_rfl) r c
theorem Lh(n:Int)(m:Int)(hm:m≤18)(hl:(cf n).length≤1000000000)(mem:Mem):kF prog 146 [.str (cf n),.int .i64 m] mem (if (cf n).length≤m then .tuple [.int .i64 n,.bool true] else .tuple [.int .i64 0,.bool false]) mem:=by
 have hG:aT prog 146=some f146:=by kernel_rfl
 refine az dP (lv:=fun _=>[]) (K:=1) rfl (by split<;>rfl) ?_ mem;by_cases h:((cf n).length:Int)≤m
 ·have h2:¬m<((cf n).length:Int):=by omega
  have h3:(cf n).length≤18:=by omega
  simp[ad,hG,f146,ag,aV,h,h2,h3,nh,EF]
 ·have h2:m<((cf n).length:Int):=by omega
  simp[ad,hG,f146,h,h2]
noncomputable def bY(f:FuncId) (args:List AV):Option AV:=
 match f,args with
 |143,[.str s]=>match oT s with
  |some n=>some (.int .i64 (mw n))
  |none=>none
 |_,_=>aV f args
theorem pP:kP prog (ag bY):=by
 have hs:=dP;refine bK fun f args v h mem=>?_
 unfold bY at h;split at h
 ·split at h
  ·rename_i n hn;cases h;rw[eG hn];exact OA n mem
  ·cases h
 ·have:=hs.fn f args mem ⟨v,none,[]⟩ (by unfold ag;simp only;rw[h])
  simpa [HS.mem] using this
theorem Qn(n:Int)(hl:(cf n).length≤1000000000)(mem:Mem):kF prog 170 [.str (cf n)] mem (.str (cf (-n))) mem:=by
 have hG:aT prog 170=some f170:=by kernel_rfl
 refine az pP (lv:=fun _=>[]) (K:=1) rfl rfl ?_ mem;by_cases h0:n=0
 ·subst h0
  simp[ad,hG,f170,ag,bY,cL,mw]
 ·by_cases h1:n<0
  ·have h2:1≤(cf n).length:=qp n
   have h3:((1:Int)≤(cf n).length):=by omega
   have h4:List.take ((cf n).length-1) (List.drop 1 (cf n))=cf (-n):=by rw[List.take_of_length_le (by simp),Fi h1]
   simp[ad,hG,f170,ag,bY,cL,mw,h1,h3];rw[←List.drop_one];exact h4
  ·have h5:1+(cf n).length≤9223372036854775807:=by omega
   simp[ad,hG,f170,ag,bY,cL,mw,h0,h1,h5,gk,qq (show 0<n by omega)]
theorem BJ(a b:Int)(mem:Mem):kF prog 95 [.str (cf a),.str (cf b)] mem (.int .i64 (JM a b)) mem:=by
 have hG:aT prog 95=some f95:=by kernel_rfl
 refine az pP (lv:=fun _=>[]) (K:=1) rfl rfl ?_ mem;rw[VM];have hs:∀n,-1≤mw n∧mw n≤1:=by intro n;unfold mw;repeat' split<;>omega
 by_cases h0:mw a=mw b
 ·by_cases h1:(aQ a.natAbs).length=(aQ b.natAbs).length
  ·have hc:IntKind.i64.wrap (mw b*JN a.natAbs b.natAbs)=mw b*JN a.natAbs b.natAbs:=by
    have h1:=hs b;have h2: -1≤JN a.natAbs b.natAbs∧JN a.natAbs b.natAbs≤1:=by unfold JN;repeat' split<;>omega
    have h3: -1≤mw b*JN a.natAbs b.natAbs∧mw b*JN a.natAbs b.natAbs≤1:=by
     generalize mw b=x at*;generalize JN a.natAbs b.natAbs=y at*;have hx:x= -1∨x=0∨x=1:=by omega
     rcases hx with rfl | rfl | rfl<;>omega
    exact al (by omega) (by omega)
   simp[ad,hG,f95,ag,bY,aV,cL,ly,h0,h1,wD h1,hc]
  ·have hw:IntKind.i64.wrap (- mw b)= - mw b:=by have:=hs b;exact al (by omega) (by omega)
   have h1i:¬((aQ a.natAbs).length:Int)=(aQ b.natAbs).length:=by omega
   by_cases h2:(aQ a.natAbs).length<(aQ b.natAbs).length
   ·simp[ad,hG,f95,ag,bY,aV,cL,ly,h0,h1,h1i,h2,hw]
   ·simp[ad,hG,f95,ag,bY,aV,cL,ly,h0,h1,h1i,h2]
 ·by_cases h2:mw a<mw b
  ·simp[ad,hG,f95,ag,bY,cL,h0,h2]
  ·simp[ad,hG,f95,ag,bY,cL,h0,h2]
variable{K:Nat}{O:adM}{b:Code}{lv:Code→List Nat}
section
variable (s:List UInt8)(hs:s.length≤1000000000)
include s hs
theorem zM(z':Env)(d:Bool)(h3:ab z' 3=.str s)(h32:ab z' 32=.int .i64 s.length)(hb:ai f94=[b]):
  ∀(k i:Nat),i≤s.length→s.length≤i+k→∃AC,ej [33] (aa b) z' 0 (aN (aM prog) lv O K 47 0 true b) (k+1) ⟨aD [33] (aa b) z' ((33,.int .i64 i)::z'),[],d⟩=
   some (if (s.drop i).all isD then .exit 0 else .ret,⟨AC,[],d⟩)∧((s.drop i).all isD=false→ab AC 2=.int .i64 2):=by
 simp[ai,aK,f94] at hb;have abz:∀k,∃AC,ej [33] (aa b) z' 0 (aN (aM prog) lv O K 47 0 true b) (k+1) ⟨aD [33] (aa b) z' ((33,.int .i64 s.length)::z'),[],d⟩=
   some (if (s.drop s.length).all isD then .exit 0 else .ret,⟨AC,[],d⟩)∧((s.drop s.length).all isD=false→ab AC 2=.int .i64 2):=by
  intro k;subst hb;simp[ej,h32]
 intro k;induction k with
 |zero=>
  intro i hi1 hi2;have hi' :i=s.length:=by omega
  subst hi';exact abz 0
 |succ k ih=>
  intro i hi1 hi2;by_cases hi' :i=s.length
  ·subst hi';exact abz (k+1)
  have A':i<s.length:=by omega
  have X5 :(i:Int)<s.length:=by omega
  obtain⟨c,hc⟩:∃c,s[i]? =some c:=⟨s[i],by simp[A']⟩
  have hd:s.drop i=c::s.drop (i+1):=by rw[List.drop_eq_getElem_cons A'];congr 1;have:=List.getElem?_eq_getElem A';rw[hc] at this;exact(Option.some.inj this).symm
  have hw:IntKind.i64.wrap ((i:Int)+1)=((i+1:Nat):Int):=by rw[al (by omega) (by omega)];omega
  obtain⟨AC,e1,e2⟩:=ih (i+1) (by omega) (by omega);subst hb;unfold ej;by_cases h1:c.toNat<48
  ·have hn:isD c=false:=by unfold isD;simp;omega
   have YS :((c.toNat:Int)<48):=by omega
   simp[h3,h32,X5,hc,YS,hd,hn]
  ·have YS :¬((c.toNat:Int)<48):=by omega
   by_cases h2:57<c.toNat
   ·have hn:isD c=false:=by unfold isD;simp;omega
    have ZZ :(57<(c.toNat:Int)):=by omega
    simp[h3,h32,X5,hc,YS,ZZ,hd,hn]
   ·have hn:isD c=true:=by unfold isD;simp;omega
    have ZZ :¬(57<(c.toNat:Int)):=by omega
    refine⟨AC,?_,?_⟩
    ·simp[h3,h32,X5,hc,YS,ZZ,hd,hn,hw]
     simp at e1;exact e1
    ·rw[hd];simpa [hn] using e2
theorem yl(hK:s.length<K)(hb:ai f94=[b])(YQ:lv b=[33]):
  ∃F:Env→Bool→Env,∀z' d,(ab z' 3=.str s∧ab z' 32=.int .i64 s.length∧ab z' 33=.int .i64 0)→
   aN (aM prog) lv O K 47 0 true (.loop b) ⟨z',[],d⟩=some (if s.all isD then .exit 0 else .ret,⟨F z' d,[],d⟩)∧(s.all isD=false→ab (F z' d) 2=.int .i64 2):=by
 refine tV (p:=fun z' _=>ab z' 3=.str s∧ab z' 32=.int .i64 s.length∧ab z' 33=.int .i64 0) (q:=fun z' d e' =>aN (aM prog) lv O K 47 0 true (.loop b) ⟨z',[],d⟩=some (if s.all isD then .exit 0 else .ret,⟨e',[],d⟩)∧(s.all isD=false→ab e' 2=.int .i64 2)) ?_;rintro z' d ⟨h3,h32,h33⟩;obtain⟨AC,e1,e2⟩:=zM (O:=O) (K:=K) (lv:=lv) s hs z' d h3 h32 hb (K-1) 0 (by omega) (by omega);refine⟨AC,?_,by simpa using e2⟩;rw[aI,YQ];have hn:aD [33] (aa b) z' ((33,.int .i64 (0:Nat))::z')=aD [33] (aa b) z' z':=by simp[aD,h33]
 rw[hn,show K-1+1=K by omega] at e1;simpa using e1
end
def okT(mn:Bool) (t:List UInt8):Bool:=match t with
 | []=>false
 |c::r=>decide (r.length<200)&& !(c==48&&(decide (0<r.length)||mn))&&(c::r).all isD
theorem XF{c:UInt8}:((c.toNat:Int)=48)↔c=48:=by
 constructor
 ·intro e
  apply UInt8.toNat_inj.1;have:c.toNat=48:=by omega
  rw[this];rfl
 ·rintro rfl;rfl
theorem FM(s:List UInt8)(hs:s.length≤1000000000)(mem:Mem):kF prog 94 [.str s] mem (.int .i64 (if okT (Lib.hasPrefix s [45]) (Lib.trimPrefix s [45]) then 0 else 2)) mem:=by
 have hG:aT prog 94=some f94:=by kernel_rfl
 refine az dP (lv:=fun _=>[33]) (K:=s.length+1) rfl rfl ?_ mem;have ht:(Lib.trimPrefix s [45]).length≤s.length:=by unfold Lib.trimPrefix;split<;>simp
 cases htp:Lib.trimPrefix s [45] with
 |nil=>simp[ad,hG,f94,ag,aV,htp,okT]
 |cons c r=>
  rw[htp] at ht;simp only[List.length_cons] at ht;obtain⟨b,hb⟩:∃b,ai f94=[b]:=⟨_,rfl⟩
  obtain⟨F,hF⟩:=yl (O:=ag aV) (K:=s.length+1) (lv:=fun _=>[33]) (c::r) (by simp;omega) (by simp;omega) hb rfl;simp[ai,aK,f94] at hb;subst hb;simp only[List.length_cons] at hF;by_cases h1:r.length<200
  ·have YS :¬(200<(r.length:Int)+1):=by omega
   by_cases h2:c=48
   ·subst h2
    by_cases h3:0<r.length
    ·have h3' :1<(r.length:Int)+1:=by omega
     simp[ad,hG,f94,ag,aV,htp,okT,h1,YS,h3,h3']
    ·have h3' :¬1<(r.length:Int)+1:=by omega
     have hr:r=[]:=List.eq_nil_of_length_eq_zero (by omega);subst hr;cases hmn:Lib.hasPrefix s [45] with
     |true=>simp[ad,hG,f94,ag,aV,htp,okT,hmn]
     |false=>
      have hd:isD 48=true:=by decide
      simp[ad,hG,f94,ag,aV,htp,okT,hmn,hF,hd]
   ·have ZZ :¬((c.toNat:Int)=48):=fun e=>h2 (XF.1 e)
    cases H':(c::r).all isD with
    |true=>simp[ad,hG,f94,ag,aV,htp,okT,h1,YS,h2,ZZ,hF,H']
    |false=>simp[ad,hG,f94,ag,aV,htp,okT,h1,YS,ZZ,hF,H']
  ·have YS :(200<(r.length:Int)+1):=by omega
   simp[ad,hG,f94,ag,aV,htp,okT,h1,YS]
theorem Oq(q:Rat)(hl:(aw q).length≤1000000000)(mem:Mem):kF prog 137 [.str (aw q)] mem (.str (aw (-q))) mem:=by
 have hG:aT prog 137=some f137:=by kernel_rfl
 refine az (ah _) (lv:=fun _=>[]) (K:=1) rfl rfl ?_ mem;by_cases h0:q=0
 ·subst h0
  simp[ad,hG,f137,bT]
 ·have hn:¬q.num=0:=fun e=>h0 (za.1 e)
  by_cases h1:q.num<0
  ·have e:=og h1
   have hb:(45::aw (-q)==[48])=false:=by rw[←e,bT];simpa using h0
   rw[e];have h3:(1:Int)≤((aw (-q)).length:Int)+1:=by omega
   simp[ad,hG,f137,hb,h3]
  ·have e:=qK (q:=q) (by omega)
   obtain⟨c,r,e2,hc⟩:=qJ (q:=q) (by omega);have hb:(c::r==[48])=false:=by rw[←e2,bT];simpa using h0
   have h2:=gx hc;rw[e,e2];rw[e2] at hl;simp only[List.length_cons] at hl;have h3:1+(r.length+1)≤9223372036854775807:=by omega
   simp[ad,hG,f137,hb,h2,h3,gk]
theorem zG(q:Rat)(mem:Mem):kF prog 89 [.str (aw q)] mem (.int .i64 (mP q)) mem:=by
 have hG:aT prog 89=some f89:=by kernel_rfl
 refine az (ah _) (lv:=fun _=>[]) (K:=1) rfl rfl ?_ mem;by_cases h0:q=0
 ·subst h0
  have:mP 0=0:=rfl;simp[ad,hG,f89,bT,this]
 ·have hn:¬q.num=0:=fun e=>h0 (za.1 e)
  by_cases h1:q.num<0
  ·have e:=og h1
   have hb:(45::aw (-q)==[48])=false:=by rw[←e,bT];simpa using h0
   have h3:0<((aw (-q)).length:Int)+1:=by omega
   rw[e];simp[ad,hG,f89,hb,mP,mw,h1,h3]
  ·obtain⟨c,r,e2,hc⟩:=qJ (q:=q) (by omega)
   have hb:(c::r==[48])=false:=by rw[←e2,bT];simpa using h0
   have h2:=gx hc;have h3:0<(r.length:Int)+1:=by omega
   rw[e2];simp[ad,hG,f89,hb,h2,h3,mP,mw,h1,hn]
theorem Oj(n:Int)(d:Nat)(hl:(cf n).length≤1000000000)(hd:(aQ d).length≤1000000000)(mem:Mem):kF prog 172 [.str (cf n),.str (aQ d)] mem (.str (if d=1 then cf n else cf n++47::aQ d)) mem:=by
 have hG:aT prog 172=some f172:=by kernel_rfl
 refine az (ah _) (lv:=fun _=>[]) (K:=1) rfl rfl ?_ mem;by_cases h:d=1
 ·subst h
  have:aQ 1=[49]:=rfl;simp[ad,hG,f172,this]
 ·have hb:(aQ d==[49])=false:=by rw[beq_eq_false_iff_ne];intro e;exact h (NB (e.trans (show [49]=aQ 1 from rfl)))
  have h1:(cf n).length+1≤9223372036854775807:=by omega
  have h2:(cf n).length+1+(aQ d).length≤9223372036854775807:=by omega
  simp[ad,hG,f172,hb,h,h1,h2,gk]
theorem Lg(q:Rat)(hl:(aw q).length≤1000000000)(mem:Mem):kF prog 117 [.str (aw q)] mem (.tuple [.str (cf q.num),.str (aQ q.den)]) mem:=by
 have hG:aT prog 117=some f117:=by kernel_rfl
 refine az dP (lv:=fun _=>[]) (K:=1) rfl rfl ?_ mem;have hi:=Cv q;by_cases h:q.den=1
 ·have h1:aQ 1=[49]:=rfl
  have e:aw q=cf q.num:=by unfold aw;rw[if_pos h]
  rw[if_pos h,e] at hi;rw[e] at hl;rw[e];simp[ad,hG,f117,ag,aV,hl,hi,h,h1]
 ·have e:aw q=cf q.num++47::aQ q.den:=by unfold aw;rw[if_neg h]
  rw[if_neg h] at hi;have h0:(0:Int)≤(cf q.num).length:=by omega
  have h1:List.drop ((cf q.num).length+1) (cf q.num++47::aQ q.den)=aQ q.den:=by rw[List.drop_append];simp
  have h2:List.take (cf q.num).length (cf q.num++47::aQ q.den)=cf q.num:=List.take_left' rfl;rw[e] at hl hi;rw[e];simp only[List.length_append,List.length_cons] at hl;simp[ad,hG,f117,ag,aV,hl,hi,h1]
variable{b2:Code}
theorem yp(s rest:List UInt8)(bg:Nat)(hs:s.length≤1000000000)(XV:rest=[]∨∃r,rest=47::r)(z':Env)(d:Bool)(h0:ab z' 0=.str s)(h7:ab z' 7=.int .i64 bg)(hb:ai f115=[b,b2]):
  ∀(ds:List UInt8) (i j acc k:Nat),s.drop i=ds++rest→ds.all isD=true→i=bg+j→i≤s.length→acc<10 ^ j→j≤9→ds.length≤k→
   ∃AC,(j+ds.length≤9→ej [5,2,3] (aa b) z' 0 (aN (aM prog) lv O K 73 0 true b) (k+1) ⟨aD [5,2,3] (aa b) z' ((5,.int .i64 i)::(2,.int .i64 acc)::z'),[],d⟩=some (.exit 0,⟨AC,[],d⟩)∧
     ab AC 5=.int .i64 ((i+ds.length:Nat):Int)∧ab AC 2=.int .i64 (wZ acc ds)∧ab AC 0=.str s∧ab AC 6=ab z' 6∧ab AC 3=ab z' 3)∧
    (9<j+ds.length→ej [5,2,3] (aa b) z' 0 (aN (aM prog) lv O K 73 0 true b) (k+1) ⟨aD [5,2,3] (aa b) z' ((5,.int .i64 i)::(2,.int .i64 acc)::z'),[],d⟩=some (.ret,⟨AC,[],d⟩)∧
     ab AC 2=.int .i64 0∧ab AC 3=.int .i64 0∧ab AC 4=.bool false):=by
 simp[ai,aK,f115] at hb;obtain⟨hb,_⟩:=hb;intro ds;induction ds with
 |nil=>
  intro i j acc k hd _ Zp hi aaQ hj _;subst hb;rcases XV with rfl | ⟨r,rfl⟩
  ·have F':i=s.length:=by have:=congrArg List.length hd;simp at this;omega
   subst F';have hn:¬(9<j):=by omega
   simp[ej,h0,hn,hj,gn]
  ·have A':i<s.length:=by have:=congrArg List.length hd;simp at this;omega
   have X5 :(i:Int)<s.length:=by omega
   have hc:s[i]? =some 47:=by have:=congrArg List.head? hd;rw[List.head?_drop] at this;simpa using this
   have hn:¬(9<j):=by omega
   simp[ej,h0,X5,hc,hn,hj,gn]
 |cons c ds ih=>
  intro i j acc k hd H' Zp hi aaQ hj hk;simp only[List.all_cons,Bool.and_eq_true] at H';have A':i<s.length:=by have:=congrArg List.length hd;simp at this;omega
  have X5 :(i:Int)<s.length:=by omega
  have hc:s[i]? =some c:=by have:=congrArg List.head? hd;rw[List.head?_drop] at this;simpa using this
  have hc1:=xt H'.1;have hc2:48≤c.toNat∧c.toNat≤57:=by have:=H'.1;unfold isD at this;simpa using this
  have hc3:¬((c.toNat:Int)=47):=by omega
  have hw1:IntKind.i64.wrap ((i:Int)-bg)=j:=by rw[al (by omega) (by omega)];omega
  obtain⟨k,rfl⟩:∃k',k=k' +1:=⟨k-1,by simp at hk;omega⟩
  by_cases hj9:j=9
  ·subst hj9
   subst hb;have hn:¬(9+(ds.length+1)≤9):=by omega
   simp[ej,h0,h7,X5,hc,hc3,hw1,hn]
  ·have hjn:¬((j:Int)=9):=by omega
   have hp:10 ^ j≤100000000:=Nat.le_trans (Nat.pow_le_pow_right (by omega) (show j≤8 by omega)) (by decide);obtain⟨v,hv⟩:∃v:Nat,v=c.toNat-48:=⟨_,rfl⟩
   obtain⟨a2,ha2⟩:∃a2:Nat,a2=10*acc+v:=⟨_,rfl⟩
   obtain⟨i2,hi2⟩:∃i2:Nat,i2=i+1:=⟨_,rfl⟩
   have hw2:IntKind.i64.wrap (10*(acc:Int))=10*(acc:Int):=al (by omega) (by omega);have hw3:IntKind.u8.wrap ((c.toNat:Int)-48)=(v:Int):=by rw[FJ (by omega) (by omega)];omega
   have hw4:IntKind.i64.wrap (v:Int)=(v:Int):=al (by omega) (by omega);have hw5:IntKind.i64.wrap (10*(acc:Int)+(v:Int))=(a2:Int):=by rw[al (by omega) (by omega)];omega
   have hw6:IntKind.i64.wrap ((i:Int)+1)=(i2:Int):=by rw[al (by omega) (by omega)];omega
   have aac :a2<10 ^ (j+1):=by rw[Nat.pow_succ];omega
   have hd' :s.drop i2=ds++rest:=by rw[hi2,←List.drop_drop,hd];simp
   obtain⟨AC,e1,e2⟩:=ih i2 (j+1) a2 k hd' H'.2 (by omega) (by omega) aac (by omega) (by simp at hk;omega);subst hb;refine⟨AC,fun X7=>?_,fun hgt=>?_⟩
   ·obtain⟨f1,f2,f3,f4,f5⟩:=e1 (by simp at X7;omega)
    refine⟨?_,by rw[f2,hi2,List.length_cons,show i+1+ds.length=i+(ds.length+1) by omega],by rw[f3,fK,ha2,hv],f4,f5⟩;rw[ej];simp[h0,h7,X5,hc,hc3,hw1,hjn,hw2,hw3,hw4,hw5,hw6];simp at f1;exact f1
   ·obtain⟨f1,f2⟩:=e2 (by simp at hgt;omega)
    refine⟨?_,f2⟩;rw[ej];simp[h0,h7,X5,hc,hc3,hw1,hjn,hw2,hw3,hw4,hw5,hw6];simp at f1;exact f1
variable{b1:Code}
theorem yq(s:List UInt8)(bg:Nat)(hs:s.length≤1000000000)(z':Env)(d:Bool)(h0:ab z' 0=.str s)(h7:ab z' 7=.int .i64 bg)(hb:ai f115=[b1,b]):
  ∀(ds:List UInt8) (i j acc k:Nat),s.drop i=ds→ds.all isD=true→i=bg+j→i≤s.length→acc<10 ^ j→j≤9→ds.length≤k→
   ∃AC,(j+ds.length≤9→ej [5,3,2] (aa b) z' 0 (aN (aM prog) lv O K 73 0 true b) (k+1) ⟨aD [5,3,2] (aa b) z' ((5,.int .i64 i)::(3,.int .i64 acc)::z'),[],d⟩=some (.exit 2,⟨AC,[],d⟩)∧
     ab AC 5=.int .i64 ((i+ds.length:Nat):Int)∧ab AC 3=.int .i64 (wZ acc ds)∧ab AC 0=.str s∧ab AC 2=ab z' 2)∧
    (9<j+ds.length→ej [5,3,2] (aa b) z' 0 (aN (aM prog) lv O K 73 0 true b) (k+1) ⟨aD [5,3,2] (aa b) z' ((5,.int .i64 i)::(3,.int .i64 acc)::z'),[],d⟩=some (.ret,⟨AC,[],d⟩)∧
     ab AC 2=.int .i64 0∧ab AC 3=.int .i64 0∧ab AC 4=.bool false):=by
 simp[ai,aK,f115] at hb;obtain⟨_,hb⟩:=hb;intro ds;induction ds with
 |nil=>
  intro i j acc k hd _ Zp hi aaQ hj _;subst hb;have F':i=s.length:=by have:=congrArg List.length hd;simp at this;omega
  subst F';have hn:¬(9<j):=by omega
  simp[ej,h0,hn,hj,gn]
 |cons c ds ih=>
  intro i j acc k hd H' Zp hi aaQ hj hk;simp only[List.all_cons,Bool.and_eq_true] at H';have A':i<s.length:=by have:=congrArg List.length hd;simp at this;omega
  have X5 :(i:Int)<s.length:=by omega
  have hc:s[i]? =some c:=by have:=congrArg List.head? hd;rw[List.head?_drop] at this;simpa using this
  have hc1:=xt H'.1;have hc2:48≤c.toNat∧c.toNat≤57:=by have:=H'.1;unfold isD at this;simpa using this
  have hw1:IntKind.i64.wrap ((i:Int)-bg)=j:=by rw[al (by omega) (by omega)];omega
  obtain⟨k,rfl⟩:∃k',k=k' +1:=⟨k-1,by simp at hk;omega⟩
  by_cases hj9:j=9
  ·subst hj9
   subst hb;have hn:¬(9+(ds.length+1)≤9):=by omega
   simp[ej,h0,h7,X5,hw1,hn]
  ·have hjn:¬((j:Int)=9):=by omega
   have hp:10 ^ j≤100000000:=Nat.le_trans (Nat.pow_le_pow_right (by omega) (show j≤8 by omega)) (by decide);obtain⟨v,hv⟩:∃v:Nat,v=c.toNat-48:=⟨_,rfl⟩
   obtain⟨a2,ha2⟩:∃a2:Nat,a2=10*acc+v:=⟨_,rfl⟩
   obtain⟨i2,hi2⟩:∃i2:Nat,i2=i+1:=⟨_,rfl⟩
   have hw2:IntKind.i64.wrap (10*(acc:Int))=10*(acc:Int):=al (by omega) (by omega);have hw3:IntKind.u8.wrap ((c.toNat:Int)-48)=(v:Int):=by rw[FJ (by omega) (by omega)];omega
   have hw4:IntKind.i64.wrap (v:Int)=(v:Int):=al (by omega) (by omega);have hw5:IntKind.i64.wrap (10*(acc:Int)+(v:Int))=(a2:Int):=by rw[al (by omega) (by omega)];omega
   have hw6:IntKind.i64.wrap ((i:Int)+1)=(i2:Int):=by rw[al (by omega) (by omega)];omega
   have aac :a2<10 ^ (j+1):=by rw[Nat.pow_succ];omega
   have hd' :s.drop i2=ds:=by rw[hi2,←List.drop_drop,hd];simp
   obtain⟨AC,e1,e2⟩:=ih i2 (j+1) a2 k hd' H'.2 (by omega) (by omega) aac (by omega) (by simp at hk;omega);subst hb;refine⟨AC,fun X7=>?_,fun hgt=>?_⟩
   ·obtain⟨f1,f2,f3,f4,f5⟩:=e1 (by simp at X7;omega)
    refine⟨?_,by rw[f2,hi2,List.length_cons,show i+1+ds.length=i+(ds.length+1) by omega],by rw[f3,fK,ha2,hv],f4,f5⟩;rw[ej];simp[h0,h7,X5,hc,hw1,hjn,hw2,hw3,hw4,hw5,hw6];simp at f1;exact f1
   ·obtain⟨f1,f2⟩:=e2 (by simp at hgt;omega)
    refine⟨?_,f2⟩;rw[ej];simp[h0,h7,X5,hc,hw1,hjn,hw2,hw3,hw4,hw5,hw6];simp at f1;exact f1
theorem rW(s rest ds:List UInt8)(bg:Nat)(hs:s.length≤1000000000)(XV:rest=[]∨∃r,rest=47::r)(hd:s.drop bg=ds++rest)(hbg:bg≤s.length)(H':ds.all isD=true)(hK:s.length<K)(hb:ai f115=[b,b2])(YQ:lv b=[5,2,3]):
  ∃F:Env→Bool→Env,∀z' d,(ab z' 0=.str s∧ab z' 7=.int .i64 bg∧ab z' 5=.int .i64 bg∧ab z' 2=.int .i64 0)→
   (ds.length≤9→aN (aM prog) lv O K 73 0 true (.loop b) ⟨z',[],d⟩=some (.exit 0,⟨F z' d,[],d⟩)∧
     ab (F z' d) 5=.int .i64 ((bg+ds.length:Nat):Int)∧ab (F z' d) 2=.int .i64 (wZ 0 ds)∧ab (F z' d) 0=.str s∧ab (F z' d) 6=ab z' 6∧ab (F z' d) 3=ab z' 3)∧
    (9<ds.length→aN (aM prog) lv O K 73 0 true (.loop b) ⟨z',[],d⟩=some (.ret,⟨F z' d,[],d⟩)∧
     ab (F z' d) 2=.int .i64 0∧ab (F z' d) 3=.int .i64 0∧ab (F z' d) 4=.bool false):=by
 refine tV (p:=fun z' _=>ab z' 0=.str s∧ab z' 7=.int .i64 bg∧ab z' 5=.int .i64 bg∧ab z' 2=.int .i64 0)
  (q:=fun z' d e' =>(ds.length≤9→aN (aM prog) lv O K 73 0 true (.loop b) ⟨z',[],d⟩=some (.exit 0,⟨e',[],d⟩)∧
     ab e' 5=.int .i64 ((bg+ds.length:Nat):Int)∧ab e' 2=.int .i64 (wZ 0 ds)∧ab e' 0=.str s∧ab e' 6=ab z' 6∧ab e' 3=ab z' 3)∧
    (9<ds.length→aN (aM prog) lv O K 73 0 true (.loop b) ⟨z',[],d⟩=some (.ret,⟨e',[],d⟩)∧
     ab e' 2=.int .i64 0∧ab e' 3=.int .i64 0∧ab e' 4=.bool false)) ?_
 rintro z' d ⟨h0,h7,h5,h2⟩;have hdl:ds.length≤K-1:=by have:=congrArg List.length hd;simp at this;omega
 obtain⟨AC,e1,e2⟩:=yp (O:=O) (K:=K) (lv:=lv) s rest bg hs XV z' d h0 h7 hb ds bg 0 0 (K-1) hd H' (by omega) hbg (by simp) (by omega) hdl;have hn:aD [5,2,3] (aa b) z' ((5,.int .i64 (bg:Int))::(2,.int .i64 ((0:Nat):Int))::z')=aD [5,2,3] (aa b) z' z':=by simp[aD,h5,h2]
 rw[hn,show K-1+1=K by omega] at e1 e2;rw[Nat.zero_add] at e1 e2;refine⟨AC,?_,?_⟩
 ·rw[aI,YQ];exact e1
 ·rw[aI,YQ];exact e2
theorem rX(s ds:List UInt8)(bg:Nat)(hs:s.length≤1000000000)(hd:s.drop bg=ds)(hbg:bg≤s.length)(H':ds.all isD=true)(hK:s.length<K)(hb:ai f115=[b1,b])(YQ:lv b=[5,3,2]):
  ∃F:Env→Bool→Env,∀z' d,(ab z' 0=.str s∧ab z' 7=.int .i64 bg∧ab z' 5=.int .i64 bg∧ab z' 3=.int .i64 0)→
   (ds.length≤9→aN (aM prog) lv O K 73 0 true (.loop b) ⟨z',[],d⟩=some (.exit 2,⟨F z' d,[],d⟩)∧
     ab (F z' d) 3=.int .i64 (wZ 0 ds)∧ab (F z' d) 2=ab z' 2)∧
    (9<ds.length→aN (aM prog) lv O K 73 0 true (.loop b) ⟨z',[],d⟩=some (.ret,⟨F z' d,[],d⟩)∧
     ab (F z' d) 2=.int .i64 0∧ab (F z' d) 3=.int .i64 0∧ab (F z' d) 4=.bool false):=by
 refine tV (p:=fun z' _=>ab z' 0=.str s∧ab z' 7=.int .i64 bg∧ab z' 5=.int .i64 bg∧ab z' 3=.int .i64 0)
  (q:=fun z' d e' =>(ds.length≤9→aN (aM prog) lv O K 73 0 true (.loop b) ⟨z',[],d⟩=some (.exit 2,⟨e',[],d⟩)∧
     ab e' 3=.int .i64 (wZ 0 ds)∧ab e' 2=ab z' 2)∧
    (9<ds.length→aN (aM prog) lv O K 73 0 true (.loop b) ⟨z',[],d⟩=some (.ret,⟨e',[],d⟩)∧
     ab e' 2=.int .i64 0∧ab e' 3=.int .i64 0∧ab e' 4=.bool false)) ?_
 rintro z' d ⟨h0,h7,h5,h3⟩;have hdl:ds.length≤K-1:=by have:=congrArg List.length hd;simp at this;omega
 obtain⟨AC,e1,e2⟩:=yq (O:=O) (K:=K) (lv:=lv) s bg hs z' d h0 h7 hb ds bg 0 0 (K-1) hd H' (by omega) hbg (by simp) (by omega) hdl;have hn:aD [5,3,2] (aa b) z' ((5,.int .i64 (bg:Int))::(3,.int .i64 ((0:Nat):Int))::z')=aD [5,3,2] (aa b) z' z':=by simp[aD,h5,h3]
 rw[hn,show K-1+1=K by omega] at e1 e2;rw[Nat.zero_add] at e1 e2;refine⟨AC,fun h=>?_,?_⟩
 ·obtain⟨f1,_,f3,_,f5⟩:=e1 h
  rw[aI,YQ];exact⟨f1,f3,f5⟩
 ·rw[aI,YQ];exact e2
def dY(c:Code):List Nat:=if (aa c).contains 17 then [5,2,3] else [5,3,2]
theorem wP(q:Rat):∃rest,aw q=(if q.num<0 then [45] else [])++(aQ q.num.natAbs++rest)∧(rest=if q.den=1 then [] else 47::aQ q.den):=by
 refine⟨if q.den=1 then [] else 47::aQ q.den,?_,rfl⟩;have h:cf q.num=(if q.num<0 then [45] else [])++aQ q.num.natAbs:=by
  cases hn:q.num with
  |ofNat u=>rw[if_neg (by simp)];rfl
  |negSucc u=>rw[if_pos (Int.negSucc_lt_zero u)];rfl
 unfold aw;rw[h];split<;>simp
section
variable (q:Rat)(hl:(aw q).length≤1000000000)
include q hl
theorem yf(hq:0≤q.num)(mem:Mem):kF prog 115 [.str (aw q)] mem
  (if (aQ q.num.natAbs).length≤9∧(q.den=1∨(aQ q.den).length≤9) then .tuple [.int .i64 q.num,.int .i64 q.den,.bool true] else .tuple [.int .i64 0,.int .i64 0,.bool false]) mem:=by
 have hG:aT prog 115=some f115:=by kernel_rfl
 refine az (ah _) (lv:=dY) (K:=(aw q).length+1) rfl (by split<;>rfl) ?_ mem;obtain⟨rest,hs,XV⟩:=wP q;rw[if_neg (by omega),List.nil_append] at hs;obtain⟨b1,b2,hb⟩:∃b1 b2,ai f115=[b1,b2]∧dY b1=[5,2,3]∧dY b2=[5,3,2]:=⟨_,_,rfl,by decide,by decide⟩
 obtain⟨F,hF⟩:=rW (O:=bq) (K:=(aw q).length+1) (lv:=dY) (aw q) rest (aQ q.num.natAbs) 0 hl
  (by rw[XV];split;exact .inl rfl;exact .inr ⟨_,rfl⟩) (by rw[List.drop_zero];exact hs) (by omega) (gl _) (by omega) hb.1 hb.2.1
 obtain⟨c,r,hcr,hc⟩:=qJ hq;have hc0:(aw q)[0]? =some c:=by rw[hcr];rfl
 have Zw:=gx hc;have XQ:0<(aw q).length:=by rw[hcr];simp only[List.length_cons];omega
 have hg:∀h:0<(aw q).length,(aw q)[0]'h=c:=fun h=>by have:=List.getElem?_eq_getElem h;rw[hc0] at this;exact(Option.some.inj this).symm
 have F':(aw q).length=(aQ q.num.natAbs).length+rest.length:=by rw[hs,List.length_append]
 have Yy:wZ 0 (aQ q.num.natAbs)=q.num.natAbs:=fY _;have acE:((q.num.natAbs:Nat):Int)=q.num:=by omega
 have hb1:=hb.1;simp[ai,aK,f115] at hb1;obtain⟨rfl,rfl⟩:=hb1;by_cases h9:(aQ q.num.natAbs).length≤9
 ·have hF9:=fun z' d h=>(hF z' d h).1 h9
  by_cases hd:q.den=1
  ·rw[if_pos hd] at XV
   have hi:((aQ q.num.natAbs).length:Int)=((aw q).length:Int):=by rw[F',XV];simp
   rw[Nat.zero_add] at hF9;simp[ad,hG,f115,hg,Zw,XQ,hF9,Yy,acE,hi,hd,h9]
  ·rw[if_neg hd] at XV
   have aas:(aw q).length=(aQ q.num.natAbs).length+((aQ q.den).length+1):=by rw[F',XV,List.length_cons]
   have hi:¬((aQ q.num.natAbs).length:Int)=((aw q).length:Int):=by omega
   obtain⟨bg,hbg⟩:∃bg:Nat,bg=(aQ q.num.natAbs).length+1:=⟨_,rfl⟩
   have hw:IntKind.i64.wrap (((aQ q.num.natAbs).length:Int)+1)=(bg:Int):=by rw[al (by omega) (by omega)];omega
   obtain⟨F2,T'⟩:=rX (O:=bq) (K:=(aw q).length+1) (lv:=dY) (aw q) (aQ q.den) bg hl
    (by rw[hs,XV,hbg,List.drop_append];simp) (by omega) (gl _) (by omega) hb.1 hb.2.2
   have aaL:wZ 0 (aQ q.den)=q.den:=fY _;rw[Nat.zero_add] at hF9;by_cases Zv:(aQ q.den).length≤9
   ·have aaD:=fun z' d h=>(T' z' d h).1 Zv
    simp[ad,hG,f115,hg,Zw,XQ,hF9,Yy,acE,hi,hd,h9,hw,aaD,aaL,Zv]
   ·have aaD:=fun z' d h=>(T' z' d h).2 (by omega)
    simp[ad,hG,f115,hg,Zw,XQ,hF9,hi,hd,h9,hw,aaD,Zv]
 ·have hF9:=fun z' d h=>(hF z' d h).2 (by omega)
  simp[ad,hG,f115,hg,Zw,XQ,hF9,h9]
theorem ye(hq:q.num<0)(mem:Mem):kF prog 115 [.str (aw q)] mem
  (if (aQ q.num.natAbs).length≤9∧(q.den=1∨(aQ q.den).length≤9) then .tuple [.int .i64 q.num,.int .i64 q.den,.bool true] else .tuple [.int .i64 0,.int .i64 0,.bool false]) mem:=by
 have hG:aT prog 115=some f115:=by kernel_rfl
 refine az (ah _) (lv:=dY) (K:=(aw q).length+1) rfl (by split<;>rfl) ?_ mem;obtain⟨rest,hs,XV⟩:=wP q;rw[if_pos hq,List.singleton_append] at hs;obtain⟨b1,b2,hb⟩:∃b1 b2,ai f115=[b1,b2]∧dY b1=[5,2,3]∧dY b2=[5,3,2]:=⟨_,_,rfl,by decide,by decide⟩
 obtain⟨F,hF⟩:=rW (O:=bq) (K:=(aw q).length+1) (lv:=dY) (aw q) rest (aQ q.num.natAbs) 1 hl
  (by rw[XV];split;exact .inl rfl;exact .inr ⟨_,rfl⟩) (by rw[hs];rfl) (by rw[hs];simp) (gl _) (by omega) hb.1 hb.2.1
 have XQ:0<(aw q).length:=by rw[hs];simp
 have hg:∀h:0<(aw q).length,(aw q)[0]'h=45:=fun h=>by
  have h1:=List.getElem?_eq_getElem h;have h2:(aw q)[0]? =some 45:=by rw[hs];rfl
  rw[h2] at h1;exact(Option.some.inj h1).symm
 have F':(aw q).length=1+((aQ q.num.natAbs).length+rest.length):=by rw[hs,List.length_cons,List.length_append,Nat.add_comm]
 have Yy:wZ 0 (aQ q.num.natAbs)=q.num.natAbs:=fY _;have hub:q.num.natAbs<10 ^ (aQ q.num.natAbs).length:=eI _;have hb1:=hb.1;simp[ai,aK,f115] at hb1;obtain⟨rfl,rfl⟩:=hb1;by_cases h9:(aQ q.num.natAbs).length≤9
 ·have hF9:=fun z' d h=>(hF z' d h).1 h9
  obtain⟨en,hen⟩:∃en:Nat,en=1+(aQ q.num.natAbs).length:=⟨_,rfl⟩
  rw[←hen] at hF9;have aen:10 ^ (aQ q.num.natAbs).length≤1000000000:=Nat.le_trans (Nat.pow_le_pow_right (by omega) h9) (by decide);have aav:IntKind.i64.wrap (-((q.num.natAbs:Nat):Int))=q.num:=by rw[al (by omega) (by omega)];omega
  by_cases hd:q.den=1
  ·rw[if_pos hd] at XV
   have hi:(en:Int)=((aw q).length:Int):=by rw[F',XV,hen];simp
   simp[ad,hG,f115,hg,XQ,hF9,Yy,aav,hi,hd,h9]
  ·rw[if_neg hd] at XV
   have aas:(aw q).length=en+((aQ q.den).length+1):=by rw[F',XV,List.length_cons,hen];omega
   have hi:¬(en:Int)=((aw q).length:Int):=by omega
   obtain⟨bg,hbg⟩:∃bg:Nat,bg=en+1:=⟨_,rfl⟩
   have hw:IntKind.i64.wrap ((en:Int)+1)=(bg:Int):=by rw[al (by omega) (by omega)];omega
   obtain⟨F2,T'⟩:=rX (O:=bq) (K:=(aw q).length+1) (lv:=dY) (aw q) (aQ q.den) bg hl
    (by rw[hs,XV,hbg,hen,show 1+(aQ q.num.natAbs).length+1=((aQ q.num.natAbs).length+1)+1 by omega,List.drop_succ_cons,List.drop_append];simp) (by omega) (gl _) (by omega) hb.1 hb.2.2
   have aaL:wZ 0 (aQ q.den)=q.den:=fY _;by_cases Zv:(aQ q.den).length≤9
   ·have aaD:=fun z' d h=>(T' z' d h).1 Zv
    simp[ad,hG,f115,hg,XQ,hF9,Yy,aav,hi,hd,h9,hw,aaD,aaL,Zv]
   ·have aaD:=fun z' d h=>(T' z' d h).2 (by omega)
    simp[ad,hG,f115,hg,XQ,hF9,hi,hd,h9,hw,aaD,Zv]
 ·have hF9:=fun z' d h=>(hF z' d h).2 (by omega)
  simp[ad,hG,f115,hg,XQ,hF9,h9]
theorem Gj(mem:Mem):kF prog 115 [.str (aw q)] mem
  (if (aQ q.num.natAbs).length≤9∧(q.den=1∨(aQ q.den).length≤9) then .tuple [.int .i64 q.num,.int .i64 q.den,.bool true] else .tuple [.int .i64 0,.int .i64 0,.bool false]) mem:=by
 by_cases hq:0≤q.num
 ·exact yf q hl hq mem
 ·exact ye q hl (by omega) mem
end
def euc:Nat→Int→Int→Int
 |0,x,_=>x
 |k+1,x,y=>if y=0 then x else euc k y (x.tmod y)
theorem rm:∀(k:Nat) (x y:Int),y.natAbs<k→(euc k x y).natAbs=x.natAbs.gcd y.natAbs
 |0,_,_,h=>by omega
 |k+1,x,y,h=>by
  unfold euc;by_cases hy:y=0
  ·subst hy;rw[if_pos rfl];simp
  ·rw[if_neg hy]
   have A':(x.tmod y).natAbs<k:=by rw[Int.natAbs_tmod];have:=Nat.mod_lt x.natAbs (show 0<y.natAbs by omega);omega
   rw[rm k y (x.tmod y) A',Int.natAbs_tmod,Nat.gcd_comm x.natAbs,Nat.gcd_rec y.natAbs x.natAbs,Nat.gcd_comm]
theorem Aq(z':Env)(d:Bool)(hb:ai f116=[b]):
  ∀(k:Nat) (x y:Int),y.natAbs<k→∃AC,ej [5,6] (aa b) z' 0 (aN (aM prog) lv O K 35 0 true b) k ⟨aD [5,6] (aa b) z' ((5,.int .i64 x)::(6,.int .i64 y)::z'),[],d⟩=
   some (.exit 0,⟨AC,[],d⟩)∧ab AC 5=.int .i64 (euc k x y)∧ab AC 0=ab z' 0∧ab AC 1=ab z' 1∧ab AC 4=ab z' 4:=by
 simp[ai,aK,f116] at hb;intro k;induction k with
 |zero=>intro x y h;omega
 |succ k ih=>
  intro x y hk;by_cases hy:y=0
  ·subst hb
   subst hy;simp[ej,euc]
  ·have A':(x.tmod y).natAbs<k:=by rw[Int.natAbs_tmod];have:=Nat.mod_lt x.natAbs (show 0<y.natAbs by omega);omega
   obtain⟨AC,e1,e2,e4⟩:=ih y (x.tmod y) A';subst hb;refine⟨AC,?_,by rw[e2,euc,if_neg hy],e4⟩;rw[ej];simp[hy];simp at e1;exact e1
theorem yu(hb:ai f116=[b])(YQ:lv b=[5,6])(n:Int)(m:Nat)(hK:m<K):
  ∃F:Env→Bool→Env,∀z' d,(ab z' 5=.int .i64 n∧ab z' 6=.int .i64 m)→
   aN (aM prog) lv O K 35 0 true (.loop b) ⟨z',[],d⟩=some (.exit 0,⟨F z' d,[],d⟩)∧ab (F z' d) 5=.int .i64 (euc K n m)∧
    ab (F z' d) 0=ab z' 0∧ab (F z' d) 1=ab z' 1∧ab (F z' d) 4=ab z' 4:=by
 refine tV (p:=fun z' _=>ab z' 5=.int .i64 n∧ab z' 6=.int .i64 m) (q:=fun z' d e' =>aN (aM prog) lv O K 35 0 true (.loop b) ⟨z',[],d⟩=some (.exit 0,⟨e',[],d⟩)∧ab e' 5=.int .i64 (euc K n m)∧
    ab e' 0=ab z' 0∧ab e' 1=ab z' 1∧ab e' 4=ab z' 4) ?_
 rintro z' d ⟨h5,h6⟩;obtain⟨AC,e1,e2⟩:=Aq (O:=O) (K:=K) (lv:=lv) z' d hb K n m (by simpa using hK);have hn:aD [5,6] (aa b) z' ((5,.int .i64 n)::(6,.int .i64 (m:Int))::z')=aD [5,6] (aa b) z' z':=by simp[aD,h5,h6]
 rw[hn] at e1;exact⟨AC,by rw[aI,YQ];exact e1,e2⟩
theorem Gn(n:Int)(m:Nat)(hn:n.natAbs≤4611686018427387904)(Yt:m≠0)(hm:m≤4611686018427387904)(mem:Mem):kF prog 116 [.int .i64 n,.int .i64 m] mem (.str (aw (Rat.normalize n m Yt))) mem:=by
 have hG:aT prog 116=some f116:=by kernel_rfl
 refine az dP (lv:=fun _=>[5,6]) (K:=m+1) rfl rfl ?_ mem;obtain⟨b,hb⟩:∃b,ai f116=[b]:=⟨_,rfl⟩
 obtain⟨F,hF⟩:=yu (O:=ag aV) (K:=m+1) (lv:=fun _=>[5,6]) hb rfl n m (by omega);simp[ai,aK,f116] at hb;subst hb;have hg:=rm (m+1) n m (by simp);generalize euc (m+1) n m=g at hF hg;rw[Int.natAbs_natCast] at hg;have hgd:n.natAbs.gcd m∣m:=Nat.gcd_dvd_right _ _;have hgn:n.natAbs.gcd m∣n.natAbs:=Nat.gcd_dvd_left _ _;have hgp:0<n.natAbs.gcd m:=Nat.gcd_pos_of_pos_right _ (by omega);have hgm:n.natAbs.gcd m≤m:=Nat.le_of_dvd (by omega) hgd;obtain⟨txt,adi,aa9⟩:∃txt,aw (Rat.normalize n m Yt)=txt∧txt=if m / n.natAbs.gcd m=1 then cf (n / (n.natAbs.gcd m:Nat)) else cf (n / (n.natAbs.gcd m:Nat))++47::aQ (m / n.natAbs.gcd m):=
  ⟨_,rfl,by rw[Rat.normalize_eq];rfl⟩
 rw[adi];generalize n.natAbs.gcd m=G at*;have hdn:(G:Int)∣n:=Int.ofNat_dvd_left.2 hgn;have hdm:(G:Int)∣(m:Int):=Int.ofNat_dvd.2 hgd;obtain⟨p,hp⟩:∃p:Int,p=n / (G:Int):=⟨_,rfl⟩
 obtain⟨e,he⟩:∃e:Nat,e=m / G:=⟨_,rfl⟩
 rw[←hp,←he] at aa9;have hq1:IntKind.i64.wrap (n.tdiv (G:Int))=p:=by
  rw[Int.tdiv_eq_ediv_of_dvd hdn,←hp];have:p.natAbs≤n.natAbs:=by rw[hp,←Int.tdiv_eq_ediv_of_dvd hdn,Int.natAbs_tdiv];exact Nat.div_le_self _ _
  exact al (by omega) (by omega)
 have hq2:IntKind.i64.wrap ((m:Int).tdiv (G:Int))=(e:Int):=by
  have h1:(m:Int).tdiv (G:Int)=(e:Int):=by rw[he,←Int.ofNat_tdiv]
  have h2:e≤m:=by rw[he];exact Nat.div_le_self _ _
  rw[h1];exact al (by omega) (by omega)
 have abC :IntKind.i64.wrap ((m:Int) / (G:Int))=(e:Int):=by rw[←Int.tdiv_eq_ediv_of_dvd hdm];exact hq2
 have hGn:¬G=0:=by omega
 have hpn: -4611686018427387904≤p∧p≤4611686018427387904:=by
  have:p.natAbs≤n.natAbs:=by rw[hp,←Int.tdiv_eq_ediv_of_dvd hdn,Int.natAbs_tdiv];exact Nat.div_le_self _ _
  omega
 have hem:e≤4611686018427387904:=by
  have h2:e≤m:=by rw[he];exact Nat.div_le_self _ _
  omega
 have YD:dH p=true:=by simp only[dH,Bool.and_eq_true,decide_eq_true_eq];omega
 have hf2:dH (e:Int)=true:=by simp only[dH,Bool.and_eq_true,decide_eq_true_eq];omega
 have hie:cf (e:Int)=aQ e:=rfl;have hgG:(g<0→IntKind.i64.wrap (-g)=(G:Int))∧(¬g<0→g=(G:Int)):=⟨fun h=>by rw[al (by omega) (by omega)];omega,fun h=>by omega⟩;have hlp:(cf p).length≤21:=by rw[Sc];exact Lib.itoa_length_le p (by omega) (by omega)
 have X7:(aQ e).length≤19:=br (by omega) (Nat.lt_of_le_of_lt hem (by decide));have hx1:(cf p).length+1≤9223372036854775807:=by omega
 have hx2:(cf p).length+1+(aQ e).length≤9223372036854775807:=by omega
 by_cases hg0:g<0
 ·have hw:=hgG.1 hg0
  by_cases he1:e=1
  ·simp[ad,hG,f116,ag,aV,hF,hg0,hw,hGn,hq1,abC,he1,YD,aa9]
  ·have abR :¬(e:Int)=1:=by omega
   simp[ad,hG,f116,ag,aV,hF,hg0,hw,hGn,hq1,abC,he1,abR,YD,hf2,hie,aa9,hx1,hx2,gk]
 ·have hw:=hgG.2 hg0
  have abn:¬(G:Int)<0:=by omega
  by_cases he1:e=1
  ·simp[ad,hG,f116,ag,aV,hF,abn,hw,hGn,hq1,abC,he1,YD,aa9]
  ·have abR :¬(e:Int)=1:=by omega
   simp[ad,hG,f116,ag,aV,hF,abn,hw,hGn,hq1,abC,he1,abR,YD,hf2,hie,aa9,hx1,hx2,gk]
end Go.Proofs
