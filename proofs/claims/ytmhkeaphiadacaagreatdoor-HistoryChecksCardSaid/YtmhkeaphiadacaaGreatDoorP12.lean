/- See P53. -/
import Derived.Test.YtmhkeaphiadacaaGreatDoorP11
import Derived.Lib.ItoaLen
set_option linter.all false
namespace Go.Proofs
open Go.Eng
open Tryz
theorem OD(n:Int)(mem:Mem):mB prog 191 [.str (cN n)] mem (.int .i64 (ns n)) mem:=by
 have hG:aO prog 191=some f191:=by kernel_rfl
 refine aB dM (lv:=fun _=>[]) (K:=1) rfl rfl ?_ mem;by_cases h0:n=0
 ·simp[ad,hG,f191,jK,ns,h0]
 ·by_cases h1:n<0
  ·simp[ad,hG,f191,ar,aT,jK,mz,h1,h0,ns]
  ·simp[ad,hG,f191,ar,aT,jK,mz,h1,h0,ns]
theorem Sz(n:Int)(hn:jC n=true)(mem:Mem):mB prog 127 [.int .i64 n] mem (.str (cN n)) mem:=by
 have hG:aO prog 127=some f127:=by kernel_rfl
 refine aB dM (lv:=fun _=>[]) (K:=1) rfl rfl ?_ mem;simp[ad,hG,f127,ar,aT,hn]
theorem EU(r c:Bool):Qs (aC prog) 234 r c .nilIface .nilIface=if r||c then some true else none:=PB (by kernel_rfl) r c
theorem Lz(n:Int)(m:Int)(hm:m≤18)(hl:(cN n).length≤1000000000)(mem:Mem):mB prog 216 [.str (cN n),.int .i64 m] mem (if (cN n).length≤m then .tuple [.int .i64 n,.bool true] else .tuple [.int .i64 0,.bool false]) mem:=by
 have hG:aO prog 216=some f216:=by kernel_rfl
 refine aB dM (lv:=fun _=>[]) (K:=1) rfl (by split<;>rfl) ?_ mem;by_cases h:((cN n).length:Int)≤m
 ·have h2:¬m<((cN n).length:Int):=by omega
  have h3:(cN n).length≤18:=by omega
  simp[ad,hG,f216,ar,aT,h,h2,h3,mY,EU]
 ·have h2:m<((cN n).length:Int):=by omega
  simp[ad,hG,f216,h,h2]
noncomputable def cF(f:FuncId) (args:List AV):Option AV:=
 match f,args with
 |191,[.str s]=>match pq s with
  |some n=>some (.int .i64 (ns n))
  |none=>none
 |_,_=>aT f args
theorem qt:qS prog (ar cF):=by
 have hs:=dM;refine bZ fun f args v h mem=>?_
 unfold cF at h;split at h
 ·split at h
  ·rename_i n hn;cases h;rw[eR hn];exact OD n mem
  ·cases h
 ·have:=hs.fn f args mem ⟨v,none,[]⟩ (by unfold ar;simp only;rw[h])
  simpa [HS.mem] using this
theorem Qw(n:Int)(hl:(cN n).length≤1000000000)(mem:Mem):mB prog 201 [.str (cN n)] mem (.str (cN (-n))) mem:=by
 have hG:aO prog 201=some f201:=by kernel_rfl
 refine aB qt (lv:=fun _=>[]) (K:=1) rfl rfl ?_ mem;by_cases h0:n=0
 ·subst h0
  simp[ad,hG,f201,ar,cF,di,ns]
 ·by_cases h1:n<0
  ·have h2:1≤(cN n).length:=qM n
   have h3:((1:Int)≤(cN n).length):=by omega
   have h4:List.take ((cN n).length-1) (List.drop 1 (cN n))=cN (-n):=by rw[List.take_of_length_le (by simp),Fy h1]
   simp[ad,hG,f201,ar,cF,di,ns,h1,h3];rw[←List.drop_one];exact h4
  ·have h5:1+(cN n).length≤9223372036854775807:=by omega
   simp[ad,hG,f201,ar,cF,di,ns,h0,h1,h5,gd,qN (show 0<n by omega)]
theorem BF(a b:Int)(mem:Mem):mB prog 179 [.str (cN a),.str (cN b)] mem (.int .i64 (Lc a b)) mem:=by
 have hG:aO prog 179=some f179:=by kernel_rfl
 refine aB qt (lv:=fun _=>[]) (K:=1) rfl rfl ?_ mem;rw[UE];have hs:∀n,-1≤ns n∧ns n≤1:=by intro n;unfold ns;repeat' split<;>omega
 by_cases h0:ns a=ns b
 ·by_cases h1:(aS a.natAbs).length=(aS b.natAbs).length
  ·have hc:IntKind.i64.wrap (ns b*Kd a.natAbs b.natAbs)=ns b*Kd a.natAbs b.natAbs:=by
    have h1:=hs b;have h2: -1≤Kd a.natAbs b.natAbs∧Kd a.natAbs b.natAbs≤1:=by unfold Kd;repeat' split<;>omega
    have h3: -1≤ns b*Kd a.natAbs b.natAbs∧ns b*Kd a.natAbs b.natAbs≤1:=by
     generalize ns b=x at*;generalize Kd a.natAbs b.natAbs=y at*;have hx:x= -1∨x=0∨x=1:=by omega
     rcases hx with rfl | rfl | rfl<;>omega
    exact ai (by omega) (by omega)
   simp[ad,hG,f179,ar,cF,aT,di,kV,h0,h1,wE h1,hc]
  ·have hw:IntKind.i64.wrap (- ns b)= - ns b:=by have:=hs b;exact ai (by omega) (by omega)
   have h1i:¬((aS a.natAbs).length:Int)=(aS b.natAbs).length:=by omega
   by_cases h2:(aS a.natAbs).length<(aS b.natAbs).length
   ·simp[ad,hG,f179,ar,cF,aT,di,kV,h0,h1,h1i,h2,hw]
   ·simp[ad,hG,f179,ar,cF,aT,di,kV,h0,h1,h1i,h2]
 ·by_cases h2:ns a<ns b
  ·simp[ad,hG,f179,ar,cF,di,h0,h2]
  ·simp[ad,hG,f179,ar,cF,di,h0,h2]
variable{K:Nat}{O:aac}{b:Code}{lv:Code→List Nat}
section
variable (s:List UInt8)(hs:s.length≤1000000000)
include s hs
theorem zY(y':Env)(d:Bool)(h3:aa y' 3=.str s)(h32:aa y' 32=.int .i64 s.length)(hb:aj f189=[b]):
  ∀(k i:Nat),i≤s.length→s.length≤i+k→∃z',gl [33] (ab b) y' 0 (aQ (aC prog) lv O K 47 0 true b) (k+1) ⟨az [33] (ab b) y' ((33,.int .i64 i)::y'),[],d⟩=
   some (if (s.drop i).all isD then .exit 0 else .ret,⟨z',[],d⟩)∧((s.drop i).all isD=false→aa z' 2=.int .i64 2):=by
 simp[aj,aD,f189] at hb;have last:∀k,∃z',gl [33] (ab b) y' 0 (aQ (aC prog) lv O K 47 0 true b) (k+1) ⟨az [33] (ab b) y' ((33,.int .i64 s.length)::y'),[],d⟩=
   some (if (s.drop s.length).all isD then .exit 0 else .ret,⟨z',[],d⟩)∧((s.drop s.length).all isD=false→aa z' 2=.int .i64 2):=by
  intro k;subst hb;simp[gl,h32]
 intro k;induction k with
 |zero=>
  intro i hi1 ZP;have hi' :i=s.length:=by omega
  subst hi';exact last 0
 |succ k ih=>
  intro i hi1 ZP;by_cases hi' :i=s.length
  ·subst hi';exact last (k+1)
  have AC:i<s.length:=by omega
  have WD :(i:Int)<s.length:=by omega
  obtain⟨c,hc⟩:∃c,s[i]? =some c:=⟨s[i],by simp[AC]⟩
  have hd:s.drop i=c::s.drop (i+1):=by rw[List.drop_eq_getElem_cons AC];congr 1;have:=List.getElem?_eq_getElem AC;rw[hc] at this;exact(Option.some.inj this).symm
  have hw:IntKind.i64.wrap ((i:Int)+1)=((i+1:Nat):Int):=by rw[ai (by omega) (by omega)];omega
  obtain⟨z',e1,e2⟩:=ih (i+1) (by omega) (by omega);subst hb;unfold gl;by_cases h1:c.toNat<48
  ·have hn:isD c=false:=by unfold isD;simp;omega
   have Ya :((c.toNat:Int)<48):=by omega
   simp[h3,h32,WD,hc,Ya,hd,hn]
  ·have Ya :¬((c.toNat:Int)<48):=by omega
   by_cases h2:57<c.toNat
   ·have hn:isD c=false:=by unfold isD;simp;omega
    have Zq :(57<(c.toNat:Int)):=by omega
    simp[h3,h32,WD,hc,Ya,Zq,hd,hn]
   ·have hn:isD c=true:=by unfold isD;simp;omega
    have Zq :¬(57<(c.toNat:Int)):=by omega
    refine⟨z',?_,?_⟩
    ·simp[h3,h32,WD,hc,Ya,Zq,hd,hn,hw]
     simp at e1;exact e1
    ·rw[hd];simpa [hn] using e2
theorem yy(hK:s.length<K)(hb:aj f189=[b])(XZ:lv b=[33]):
  ∃F:Env→Bool→Env,∀y' d,(aa y' 3=.str s∧aa y' 32=.int .i64 s.length∧aa y' 33=.int .i64 0)→
   aQ (aC prog) lv O K 47 0 true (.loop b) ⟨y',[],d⟩=some (if s.all isD then .exit 0 else .ret,⟨F y' d,[],d⟩)∧(s.all isD=false→aa (F y' d) 2=.int .i64 2):=by
 refine rq (p:=fun y' _=>aa y' 3=.str s∧aa y' 32=.int .i64 s.length∧aa y' 33=.int .i64 0) (q:=fun y' d e' =>aQ (aC prog) lv O K 47 0 true (.loop b) ⟨y',[],d⟩=some (if s.all isD then .exit 0 else .ret,⟨e',[],d⟩)∧(s.all isD=false→aa e' 2=.int .i64 2)) ?_;rintro y' d ⟨h3,h32,h33⟩;obtain⟨z',e1,e2⟩:=zY (O:=O) (K:=K) (lv:=lv) s hs y' d h3 h32 hb (K-1) 0 (by omega) (by omega);refine⟨z',?_,by simpa using e2⟩;rw[aR,XZ];have hn:az [33] (ab b) y' ((33,.int .i64 (0:Nat))::y')=az [33] (ab b) y' y':=by simp[az,h33]
 rw[hn,show K-1+1=K by omega] at e1;simpa using e1
end
def okT(mn:Bool) (t:List UInt8):Bool:=match t with
 | []=>false
 |c::r=>decide (r.length<200)&& !(c==48&&(decide (0<r.length)||mn))&&(c::r).all isD
theorem Wr{c:UInt8}:((c.toNat:Int)=48)↔c=48:=by
 constructor
 ·intro e
  apply UInt8.toNat_inj.1;have:c.toNat=48:=by omega
  rw[this];rfl
 ·rintro rfl;rfl
theorem F0(s:List UInt8)(hs:s.length≤1000000000)(mem:Mem):mB prog 189 [.str s] mem (.int .i64 (if okT (Lib.hasPrefix s [45]) (Lib.trimPrefix s [45]) then 0 else 2)) mem:=by
 have hG:aO prog 189=some f189:=by kernel_rfl
 refine aB dM (lv:=fun _=>[33]) (K:=s.length+1) rfl rfl ?_ mem;have ht:(Lib.trimPrefix s [45]).length≤s.length:=by unfold Lib.trimPrefix;split<;>simp
 cases htp:Lib.trimPrefix s [45] with
 |nil=>simp[ad,hG,f189,ar,aT,htp,okT]
 |cons c r=>
  rw[htp] at ht;simp only[List.length_cons] at ht;obtain⟨b,hb⟩:∃b,aj f189=[b]:=⟨_,rfl⟩
  obtain⟨F,hF⟩:=yy (O:=ar aT) (K:=s.length+1) (lv:=fun _=>[33]) (c::r) (by simp;omega) (by simp;omega) hb rfl;simp[aj,aD,f189] at hb;subst hb;simp only[List.length_cons] at hF;by_cases h1:r.length<200
  ·have Ya :¬(200<(r.length:Int)+1):=by omega
   by_cases h2:c=48
   ·subst h2
    by_cases h3:0<r.length
    ·have h3' :1<(r.length:Int)+1:=by omega
     simp[ad,hG,f189,ar,aT,htp,okT,h1,Ya,h3,h3']
    ·have h3' :¬1<(r.length:Int)+1:=by omega
     have hr:r=[]:=List.eq_nil_of_length_eq_zero (by omega);subst hr;cases hmn:Lib.hasPrefix s [45] with
     |true=>simp[ad,hG,f189,ar,aT,htp,okT,hmn]
     |false=>
      have hd:isD 48=true:=by decide
      simp[ad,hG,f189,ar,aT,htp,okT,hmn,hF,hd]
   ·have Zq :¬((c.toNat:Int)=48):=fun e=>h2 (Wr.1 e)
    cases G':(c::r).all isD with
    |true=>simp[ad,hG,f189,ar,aT,htp,okT,h1,Ya,h2,Zq,hF,G']
    |false=>simp[ad,hG,f189,ar,aT,htp,okT,h1,Ya,Zq,hF,G']
  ·have Ya :(200<(r.length:Int)+1):=by omega
   simp[ad,hG,f189,ar,aT,htp,okT,h1,Ya]
theorem Oy(q:Rat)(hl:(aN q).length≤1000000000)(mem:Mem):mB prog 182 [.str (aN q)] mem (.str (aN (-q))) mem:=by
 have hG:aO prog 182=some f182:=by kernel_rfl
 refine aB (ah _) (lv:=fun _=>[]) (K:=1) rfl rfl ?_ mem;by_cases h0:q=0
 ·subst h0
  simp[ad,hG,f182,bT]
 ·have hn:¬q.num=0:=fun e=>h0 (zr.1 e)
  by_cases h1:q.num<0
  ·have e:=oJ h1
   have hb:(45::aN (-q)==[48])=false:=by rw[←e,bT];simpa using h0
   rw[e];have h3:(1:Int)≤((aN (-q)).length:Int)+1:=by omega
   simp[ad,hG,f182,hb,h3]
  ·have e:=rf (q:=q) (by omega)
   obtain⟨c,r,e2,hc⟩:=rb (q:=q) (by omega);have hb:(c::r==[48])=false:=by rw[←e2,bT];simpa using h0
   have h2:=gu hc;rw[e,e2];rw[e2] at hl;simp only[List.length_cons] at hl;have h3:1+(r.length+1)≤9223372036854775807:=by omega
   simp[ad,hG,f182,hb,h2,h3,gd]
theorem zV(q:Rat)(mem:Mem):mB prog 104 [.str (aN q)] mem (.int .i64 (nq q)) mem:=by
 have hG:aO prog 104=some f104:=by kernel_rfl
 refine aB (ah _) (lv:=fun _=>[]) (K:=1) rfl rfl ?_ mem;by_cases h0:q=0
 ·subst h0
  have:nq 0=0:=rfl;simp[ad,hG,f104,bT,this]
 ·have hn:¬q.num=0:=fun e=>h0 (zr.1 e)
  by_cases h1:q.num<0
  ·have e:=oJ h1
   have hb:(45::aN (-q)==[48])=false:=by rw[←e,bT];simpa using h0
   have h3:0<((aN (-q)).length:Int)+1:=by omega
   rw[e];simp[ad,hG,f104,hb,nq,ns,h1,h3]
  ·obtain⟨c,r,e2,hc⟩:=rb (q:=q) (by omega)
   have hb:(c::r==[48])=false:=by rw[←e2,bT];simpa using h0
   have h2:=gu hc;have h3:0<(r.length:Int)+1:=by omega
   rw[e2];simp[ad,hG,f104,hb,h2,h3,nq,ns,h1,hn]
theorem Ov(n:Int)(d:Nat)(hl:(cN n).length≤1000000000)(hd:(aS d).length≤1000000000)(mem:Mem):mB prog 202 [.str (cN n),.str (aS d)] mem (.str (if d=1 then cN n else cN n++47::aS d)) mem:=by
 have hG:aO prog 202=some f202:=by kernel_rfl
 refine aB (ah _) (lv:=fun _=>[]) (K:=1) rfl rfl ?_ mem;by_cases h:d=1
 ·subst h
  have:aS 1=[49]:=rfl;simp[ad,hG,f202,this]
 ·have hb:(aS d==[49])=false:=by rw[beq_eq_false_iff_ne];intro e;exact h (NX (e.trans (show [49]=aS 1 from rfl)))
  have h1:(cN n).length+1≤9223372036854775807:=by omega
  have h2:(cN n).length+1+(aS d).length≤9223372036854775807:=by omega
  simp[ad,hG,f202,hb,h,h1,h2,gd]
theorem Ly(q:Rat)(hl:(aN q).length≤1000000000)(mem:Mem):mB prog 178 [.str (aN q)] mem (.tuple [.str (cN q.num),.str (aS q.den)]) mem:=by
 have hG:aO prog 178=some f178:=by kernel_rfl
 refine aB dM (lv:=fun _=>[]) (K:=1) rfl rfl ?_ mem;have hi:=CA q;by_cases h:q.den=1
 ·have h1:aS 1=[49]:=rfl
  have e:aN q=cN q.num:=by unfold aN;rw[if_pos h]
  rw[if_pos h,e] at hi;rw[e] at hl;rw[e];simp[ad,hG,f178,ar,aT,hl,hi,h,h1]
 ·have e:aN q=cN q.num++47::aS q.den:=by unfold aN;rw[if_neg h]
  rw[if_neg h] at hi;have h0:(0:Int)≤(cN q.num).length:=by omega
  have h1:List.drop ((cN q.num).length+1) (cN q.num++47::aS q.den)=aS q.den:=by rw[List.drop_append];simp
  have h2:List.take (cN q.num).length (cN q.num++47::aS q.den)=cN q.num:=List.take_left' rfl;rw[e] at hl hi;rw[e];simp only[List.length_append,List.length_cons] at hl;simp[ad,hG,f178,ar,aT,hl,hi,h1]
variable{b2:Code}
theorem yH(s rest:List UInt8)(bg:Nat)(hs:s.length≤1000000000)(WG:rest=[]∨∃r,rest=47::r)(y':Env)(d:Bool)(h0:aa y' 0=.str s)(h7:aa y' 7=.int .i64 bg)(hb:aj f177=[b,b2]):
  ∀(ds:List UInt8) (i j acc k:Nat),s.drop i=ds++rest→ds.all isD=true→i=bg+j→i≤s.length→acc<10 ^ j→j≤9→ds.length≤k→
   ∃z',(j+ds.length≤9→gl [5,2,3] (ab b) y' 0 (aQ (aC prog) lv O K 73 0 true b) (k+1) ⟨az [5,2,3] (ab b) y' ((5,.int .i64 i)::(2,.int .i64 acc)::y'),[],d⟩=some (.exit 0,⟨z',[],d⟩)∧
     aa z' 5=.int .i64 ((i+ds.length:Nat):Int)∧aa z' 2=.int .i64 (xc acc ds)∧aa z' 0=.str s∧aa z' 6=aa y' 6∧aa z' 3=aa y' 3)∧
    (9<j+ds.length→gl [5,2,3] (ab b) y' 0 (aQ (aC prog) lv O K 73 0 true b) (k+1) ⟨az [5,2,3] (ab b) y' ((5,.int .i64 i)::(2,.int .i64 acc)::y'),[],d⟩=some (.ret,⟨z',[],d⟩)∧
     aa z' 2=.int .i64 0∧aa z' 3=.int .i64 0∧aa z' 4=.bool false):=by
 simp[aj,aD,f177] at hb;obtain⟨hb,_⟩:=hb;intro ds;induction ds with
 |nil=>
  intro i j acc k hd _ YE hi hacc hj _;subst hb;rcases WG with rfl | ⟨r,rfl⟩
  ·have A':i=s.length:=by have:=congrArg List.length hd;simp at this;omega
   subst A';have hn:¬(9<j):=by omega
   simp[gl,h0,hn,hj,gg]
  ·have AC:i<s.length:=by have:=congrArg List.length hd;simp at this;omega
   have WD :(i:Int)<s.length:=by omega
   have hc:s[i]? =some 47:=by have:=congrArg List.head? hd;rw[List.head?_drop] at this;simpa using this
   have hn:¬(9<j):=by omega
   simp[gl,h0,WD,hc,hn,hj,gg]
 |cons c ds ih=>
  intro i j acc k hd G' YE hi hacc hj hk;simp only[List.all_cons,Bool.and_eq_true] at G';have AC:i<s.length:=by have:=congrArg List.length hd;simp at this;omega
  have WD :(i:Int)<s.length:=by omega
  have hc:s[i]? =some c:=by have:=congrArg List.head? hd;rw[List.head?_drop] at this;simpa using this
  have hc1:=xE G'.1;have hc2:48≤c.toNat∧c.toNat≤57:=by have:=G'.1;unfold isD at this;simpa using this
  have hc3:¬((c.toNat:Int)=47):=by omega
  have hw1:IntKind.i64.wrap ((i:Int)-bg)=j:=by rw[ai (by omega) (by omega)];omega
  obtain⟨k,rfl⟩:∃k',k=k' +1:=⟨k-1,by simp at hk;omega⟩
  by_cases hj9:j=9
  ·subst hj9
   subst hb;have hn:¬(9+(ds.length+1)≤9):=by omega
   simp[gl,h0,h7,WD,hc,hc3,hw1,hn]
  ·have hjn:¬((j:Int)=9):=by omega
   have hp:10 ^ j≤100000000:=Nat.le_trans (Nat.pow_le_pow_right (by omega) (show j≤8 by omega)) (by decide);obtain⟨v,hv⟩:∃v:Nat,v=c.toNat-48:=⟨_,rfl⟩
   obtain⟨a2,ha2⟩:∃a2:Nat,a2=10*acc+v:=⟨_,rfl⟩
   obtain⟨i2,ZP⟩:∃i2:Nat,i2=i+1:=⟨_,rfl⟩
   have ZG:IntKind.i64.wrap (10*(acc:Int))=10*(acc:Int):=ai (by omega) (by omega);have hw3:IntKind.u8.wrap ((c.toNat:Int)-48)=(v:Int):=by rw[FY (by omega) (by omega)];omega
   have hw4:IntKind.i64.wrap (v:Int)=(v:Int):=ai (by omega) (by omega);have hw5:IntKind.i64.wrap (10*(acc:Int)+(v:Int))=(a2:Int):=by rw[ai (by omega) (by omega)];omega
   have hw6:IntKind.i64.wrap ((i:Int)+1)=(i2:Int):=by rw[ai (by omega) (by omega)];omega
   have Zv :a2<10 ^ (j+1):=by rw[Nat.pow_succ];omega
   have hd' :s.drop i2=ds++rest:=by rw[ZP,←List.drop_drop,hd];simp
   obtain⟨z',e1,e2⟩:=ih i2 (j+1) a2 k hd' G'.2 (by omega) (by omega) Zv (by omega) (by simp at hk;omega);subst hb;refine⟨z',fun Xr=>?_,fun hgt=>?_⟩
   ·obtain⟨f1,f2,f3,f4,f5⟩:=e1 (by simp at Xr;omega)
    refine⟨?_,by rw[f2,ZP,List.length_cons,show i+1+ds.length=i+(ds.length+1) by omega],by rw[f3,fx,ha2,hv],f4,f5⟩;rw[gl];simp[h0,h7,WD,hc,hc3,hw1,hjn,ZG,hw3,hw4,hw5,hw6];simp at f1;exact f1
   ·obtain⟨f1,f2⟩:=e2 (by simp at hgt;omega)
    refine⟨?_,f2⟩;rw[gl];simp[h0,h7,WD,hc,hc3,hw1,hjn,ZG,hw3,hw4,hw5,hw6];simp at f1;exact f1
variable{b1:Code}
theorem yI(s:List UInt8)(bg:Nat)(hs:s.length≤1000000000)(y':Env)(d:Bool)(h0:aa y' 0=.str s)(h7:aa y' 7=.int .i64 bg)(hb:aj f177=[b1,b]):
  ∀(ds:List UInt8) (i j acc k:Nat),s.drop i=ds→ds.all isD=true→i=bg+j→i≤s.length→acc<10 ^ j→j≤9→ds.length≤k→
   ∃z',(j+ds.length≤9→gl [5,3,2] (ab b) y' 0 (aQ (aC prog) lv O K 73 0 true b) (k+1) ⟨az [5,3,2] (ab b) y' ((5,.int .i64 i)::(3,.int .i64 acc)::y'),[],d⟩=some (.exit 2,⟨z',[],d⟩)∧
     aa z' 5=.int .i64 ((i+ds.length:Nat):Int)∧aa z' 3=.int .i64 (xc acc ds)∧aa z' 0=.str s∧aa z' 2=aa y' 2)∧
    (9<j+ds.length→gl [5,3,2] (ab b) y' 0 (aQ (aC prog) lv O K 73 0 true b) (k+1) ⟨az [5,3,2] (ab b) y' ((5,.int .i64 i)::(3,.int .i64 acc)::y'),[],d⟩=some (.ret,⟨z',[],d⟩)∧
     aa z' 2=.int .i64 0∧aa z' 3=.int .i64 0∧aa z' 4=.bool false):=by
 simp[aj,aD,f177] at hb;obtain⟨_,hb⟩:=hb;intro ds;induction ds with
 |nil=>
  intro i j acc k hd _ YE hi hacc hj _;subst hb;have A':i=s.length:=by have:=congrArg List.length hd;simp at this;omega
  subst A';have hn:¬(9<j):=by omega
  simp[gl,h0,hn,hj,gg]
 |cons c ds ih=>
  intro i j acc k hd G' YE hi hacc hj hk;simp only[List.all_cons,Bool.and_eq_true] at G';have AC:i<s.length:=by have:=congrArg List.length hd;simp at this;omega
  have WD :(i:Int)<s.length:=by omega
  have hc:s[i]? =some c:=by have:=congrArg List.head? hd;rw[List.head?_drop] at this;simpa using this
  have hc1:=xE G'.1;have hc2:48≤c.toNat∧c.toNat≤57:=by have:=G'.1;unfold isD at this;simpa using this
  have hw1:IntKind.i64.wrap ((i:Int)-bg)=j:=by rw[ai (by omega) (by omega)];omega
  obtain⟨k,rfl⟩:∃k',k=k' +1:=⟨k-1,by simp at hk;omega⟩
  by_cases hj9:j=9
  ·subst hj9
   subst hb;have hn:¬(9+(ds.length+1)≤9):=by omega
   simp[gl,h0,h7,WD,hw1,hn]
  ·have hjn:¬((j:Int)=9):=by omega
   have hp:10 ^ j≤100000000:=Nat.le_trans (Nat.pow_le_pow_right (by omega) (show j≤8 by omega)) (by decide);obtain⟨v,hv⟩:∃v:Nat,v=c.toNat-48:=⟨_,rfl⟩
   obtain⟨a2,ha2⟩:∃a2:Nat,a2=10*acc+v:=⟨_,rfl⟩
   obtain⟨i2,ZP⟩:∃i2:Nat,i2=i+1:=⟨_,rfl⟩
   have ZG:IntKind.i64.wrap (10*(acc:Int))=10*(acc:Int):=ai (by omega) (by omega);have hw3:IntKind.u8.wrap ((c.toNat:Int)-48)=(v:Int):=by rw[FY (by omega) (by omega)];omega
   have hw4:IntKind.i64.wrap (v:Int)=(v:Int):=ai (by omega) (by omega);have hw5:IntKind.i64.wrap (10*(acc:Int)+(v:Int))=(a2:Int):=by rw[ai (by omega) (by omega)];omega
   have hw6:IntKind.i64.wrap ((i:Int)+1)=(i2:Int):=by rw[ai (by omega) (by omega)];omega
   have Zv :a2<10 ^ (j+1):=by rw[Nat.pow_succ];omega
   have hd' :s.drop i2=ds:=by rw[ZP,←List.drop_drop,hd];simp
   obtain⟨z',e1,e2⟩:=ih i2 (j+1) a2 k hd' G'.2 (by omega) (by omega) Zv (by omega) (by simp at hk;omega);subst hb;refine⟨z',fun Xr=>?_,fun hgt=>?_⟩
   ·obtain⟨f1,f2,f3,f4,f5⟩:=e1 (by simp at Xr;omega)
    refine⟨?_,by rw[f2,ZP,List.length_cons,show i+1+ds.length=i+(ds.length+1) by omega],by rw[f3,fx,ha2,hv],f4,f5⟩;rw[gl];simp[h0,h7,WD,hc,hw1,hjn,ZG,hw3,hw4,hw5,hw6];simp at f1;exact f1
   ·obtain⟨f1,f2⟩:=e2 (by simp at hgt;omega)
    refine⟨?_,f2⟩;rw[gl];simp[h0,h7,WD,hc,hw1,hjn,ZG,hw3,hw4,hw5,hw6];simp at f1;exact f1
theorem sD(s rest ds:List UInt8)(bg:Nat)(hs:s.length≤1000000000)(WG:rest=[]∨∃r,rest=47::r)(hd:s.drop bg=ds++rest)(hbg:bg≤s.length)(G':ds.all isD=true)(hK:s.length<K)(hb:aj f177=[b,b2])(XZ:lv b=[5,2,3]):
  ∃F:Env→Bool→Env,∀y' d,(aa y' 0=.str s∧aa y' 7=.int .i64 bg∧aa y' 5=.int .i64 bg∧aa y' 2=.int .i64 0)→
   (ds.length≤9→aQ (aC prog) lv O K 73 0 true (.loop b) ⟨y',[],d⟩=some (.exit 0,⟨F y' d,[],d⟩)∧
     aa (F y' d) 5=.int .i64 ((bg+ds.length:Nat):Int)∧aa (F y' d) 2=.int .i64 (xc 0 ds)∧aa (F y' d) 0=.str s∧aa (F y' d) 6=aa y' 6∧aa (F y' d) 3=aa y' 3)∧
    (9<ds.length→aQ (aC prog) lv O K 73 0 true (.loop b) ⟨y',[],d⟩=some (.ret,⟨F y' d,[],d⟩)∧
     aa (F y' d) 2=.int .i64 0∧aa (F y' d) 3=.int .i64 0∧aa (F y' d) 4=.bool false):=by
 refine rq (p:=fun y' _=>aa y' 0=.str s∧aa y' 7=.int .i64 bg∧aa y' 5=.int .i64 bg∧aa y' 2=.int .i64 0)
  (q:=fun y' d e' =>(ds.length≤9→aQ (aC prog) lv O K 73 0 true (.loop b) ⟨y',[],d⟩=some (.exit 0,⟨e',[],d⟩)∧
     aa e' 5=.int .i64 ((bg+ds.length:Nat):Int)∧aa e' 2=.int .i64 (xc 0 ds)∧aa e' 0=.str s∧aa e' 6=aa y' 6∧aa e' 3=aa y' 3)∧
    (9<ds.length→aQ (aC prog) lv O K 73 0 true (.loop b) ⟨y',[],d⟩=some (.ret,⟨e',[],d⟩)∧
     aa e' 2=.int .i64 0∧aa e' 3=.int .i64 0∧aa e' 4=.bool false)) ?_
 rintro y' d ⟨h0,h7,h5,h2⟩;have hdl:ds.length≤K-1:=by have:=congrArg List.length hd;simp at this;omega
 obtain⟨z',e1,e2⟩:=yH (O:=O) (K:=K) (lv:=lv) s rest bg hs WG y' d h0 h7 hb ds bg 0 0 (K-1) hd G' (by omega) hbg (by simp) (by omega) hdl;have hn:az [5,2,3] (ab b) y' ((5,.int .i64 (bg:Int))::(2,.int .i64 ((0:Nat):Int))::y')=az [5,2,3] (ab b) y' y':=by simp[az,h5,h2]
 rw[hn,show K-1+1=K by omega] at e1 e2;rw[Nat.zero_add] at e1 e2;refine⟨z',?_,?_⟩
 ·rw[aR,XZ];exact e1
 ·rw[aR,XZ];exact e2
theorem sE(s ds:List UInt8)(bg:Nat)(hs:s.length≤1000000000)(hd:s.drop bg=ds)(hbg:bg≤s.length)(G':ds.all isD=true)(hK:s.length<K)(hb:aj f177=[b1,b])(XZ:lv b=[5,3,2]):
  ∃F:Env→Bool→Env,∀y' d,(aa y' 0=.str s∧aa y' 7=.int .i64 bg∧aa y' 5=.int .i64 bg∧aa y' 3=.int .i64 0)→
   (ds.length≤9→aQ (aC prog) lv O K 73 0 true (.loop b) ⟨y',[],d⟩=some (.exit 2,⟨F y' d,[],d⟩)∧
     aa (F y' d) 3=.int .i64 (xc 0 ds)∧aa (F y' d) 2=aa y' 2)∧
    (9<ds.length→aQ (aC prog) lv O K 73 0 true (.loop b) ⟨y',[],d⟩=some (.ret,⟨F y' d,[],d⟩)∧
     aa (F y' d) 2=.int .i64 0∧aa (F y' d) 3=.int .i64 0∧aa (F y' d) 4=.bool false):=by
 refine rq (p:=fun y' _=>aa y' 0=.str s∧aa y' 7=.int .i64 bg∧aa y' 5=.int .i64 bg∧aa y' 3=.int .i64 0)
  (q:=fun y' d e' =>(ds.length≤9→aQ (aC prog) lv O K 73 0 true (.loop b) ⟨y',[],d⟩=some (.exit 2,⟨e',[],d⟩)∧
     aa e' 3=.int .i64 (xc 0 ds)∧aa e' 2=aa y' 2)∧
    (9<ds.length→aQ (aC prog) lv O K 73 0 true (.loop b) ⟨y',[],d⟩=some (.ret,⟨e',[],d⟩)∧
     aa e' 2=.int .i64 0∧aa e' 3=.int .i64 0∧aa e' 4=.bool false)) ?_
 rintro y' d ⟨h0,h7,h5,h3⟩;have hdl:ds.length≤K-1:=by have:=congrArg List.length hd;simp at this;omega
 obtain⟨z',e1,e2⟩:=yI (O:=O) (K:=K) (lv:=lv) s bg hs y' d h0 h7 hb ds bg 0 0 (K-1) hd G' (by omega) hbg (by simp) (by omega) hdl;have hn:az [5,3,2] (ab b) y' ((5,.int .i64 (bg:Int))::(3,.int .i64 ((0:Nat):Int))::y')=az [5,3,2] (ab b) y' y':=by simp[az,h5,h3]
 rw[hn,show K-1+1=K by omega] at e1 e2;rw[Nat.zero_add] at e1 e2;refine⟨z',fun h=>?_,?_⟩
 ·obtain⟨f1,_,f3,_,f5⟩:=e1 h
  rw[aR,XZ];exact⟨f1,f3,f5⟩
 ·rw[aR,XZ];exact e2
def dW(c:Code):List Nat:=if (ab c).contains 17 then [5,2,3] else [5,3,2]
theorem wT(q:Rat):∃rest,aN q=(if q.num<0 then [45] else [])++(aS q.num.natAbs++rest)∧(rest=if q.den=1 then [] else 47::aS q.den):=by
 refine⟨if q.den=1 then [] else 47::aS q.den,?_,rfl⟩;have h:cN q.num=(if q.num<0 then [45] else [])++aS q.num.natAbs:=by
  cases hn:q.num with
  |ofNat u=>rw[if_neg (by simp)];rfl
  |negSucc u=>rw[if_pos (Int.negSucc_lt_zero u)];rfl
 unfold aN;rw[h];split<;>simp
section
variable (q:Rat)(hl:(aN q).length≤1000000000)
include q hl
theorem yq(hq:0≤q.num)(mem:Mem):mB prog 177 [.str (aN q)] mem
  (if (aS q.num.natAbs).length≤9∧(q.den=1∨(aS q.den).length≤9) then .tuple [.int .i64 q.num,.int .i64 q.den,.bool true] else .tuple [.int .i64 0,.int .i64 0,.bool false]) mem:=by
 have hG:aO prog 177=some f177:=by kernel_rfl
 refine aB (ah _) (lv:=dW) (K:=(aN q).length+1) rfl (by split<;>rfl) ?_ mem;obtain⟨rest,hs,WG⟩:=wT q;rw[if_neg (by omega),List.nil_append] at hs;obtain⟨b1,b2,hb⟩:∃b1 b2,aj f177=[b1,b2]∧dW b1=[5,2,3]∧dW b2=[5,3,2]:=⟨_,_,rfl,by decide,by decide⟩
 obtain⟨F,hF⟩:=sD (O:=bt) (K:=(aN q).length+1) (lv:=dW) (aN q) rest (aS q.num.natAbs) 0 hl
  (by rw[WG];split;exact .inl rfl;exact .inr ⟨_,rfl⟩) (by rw[List.drop_zero];exact hs) (by omega) (gf _) (by omega) hb.1 hb.2.1
 obtain⟨c,r,hcr,hc⟩:=rb hq;have hc0:(aN q)[0]? =some c:=by rw[hcr];rfl
 have Ym:=gu hc;have WC:0<(aN q).length:=by rw[hcr];simp only[List.length_cons];omega
 have hg:∀h:0<(aN q).length,(aN q)[0]'h=c:=fun h=>by have:=List.getElem?_eq_getElem h;rw[hc0] at this;exact(Option.some.inj this).symm
 have A':(aN q).length=(aS q.num.natAbs).length+rest.length:=by rw[hs,List.length_append]
 have Xf:xc 0 (aS q.num.natAbs)=q.num.natAbs:=fT _;have habs:((q.num.natAbs:Nat):Int)=q.num:=by omega
 have hb1:=hb.1;simp[aj,aD,f177] at hb1;obtain⟨rfl,rfl⟩:=hb1;by_cases h9:(aS q.num.natAbs).length≤9
 ·have Zy:=fun y' d h=>(hF y' d h).1 h9
  by_cases hd:q.den=1
  ·rw[if_pos hd] at WG
   have hi:((aS q.num.natAbs).length:Int)=((aN q).length:Int):=by rw[A',WG];simp
   rw[Nat.zero_add] at Zy;simp[ad,hG,f177,hg,Ym,WC,Zy,Xf,habs,hi,hd,h9]
  ·rw[if_neg hd] at WG
   have hlen2:(aN q).length=(aS q.num.natAbs).length+((aS q.den).length+1):=by rw[A',WG,List.length_cons]
   have hi:¬((aS q.num.natAbs).length:Int)=((aN q).length:Int):=by omega
   obtain⟨bg,hbg⟩:∃bg:Nat,bg=(aS q.num.natAbs).length+1:=⟨_,rfl⟩
   have hw:IntKind.i64.wrap (((aS q.num.natAbs).length:Int)+1)=(bg:Int):=by rw[ai (by omega) (by omega)];omega
   obtain⟨F2,P'⟩:=sE (O:=bt) (K:=(aN q).length+1) (lv:=dW) (aN q) (aS q.den) bg hl
    (by rw[hs,WG,hbg,List.drop_append];simp) (by omega) (gf _) (by omega) hb.1 hb.2.2
   have hval2:xc 0 (aS q.den)=q.den:=fT _;rw[Nat.zero_add] at Zy;by_cases h10:(aS q.den).length≤9
   ·have Zz:=fun y' d h=>(P' y' d h).1 h10
    simp[ad,hG,f177,hg,Ym,WC,Zy,Xf,habs,hi,hd,h9,hw,Zz,hval2,h10]
   ·have Zz:=fun y' d h=>(P' y' d h).2 (by omega)
    simp[ad,hG,f177,hg,Ym,WC,Zy,hi,hd,h9,hw,Zz,h10]
 ·have Zy:=fun y' d h=>(hF y' d h).2 (by omega)
  simp[ad,hG,f177,hg,Ym,WC,Zy,h9]
theorem yp(hq:q.num<0)(mem:Mem):mB prog 177 [.str (aN q)] mem
  (if (aS q.num.natAbs).length≤9∧(q.den=1∨(aS q.den).length≤9) then .tuple [.int .i64 q.num,.int .i64 q.den,.bool true] else .tuple [.int .i64 0,.int .i64 0,.bool false]) mem:=by
 have hG:aO prog 177=some f177:=by kernel_rfl
 refine aB (ah _) (lv:=dW) (K:=(aN q).length+1) rfl (by split<;>rfl) ?_ mem;obtain⟨rest,hs,WG⟩:=wT q;rw[if_pos hq,List.singleton_append] at hs;obtain⟨b1,b2,hb⟩:∃b1 b2,aj f177=[b1,b2]∧dW b1=[5,2,3]∧dW b2=[5,3,2]:=⟨_,_,rfl,by decide,by decide⟩
 obtain⟨F,hF⟩:=sD (O:=bt) (K:=(aN q).length+1) (lv:=dW) (aN q) rest (aS q.num.natAbs) 1 hl
  (by rw[WG];split;exact .inl rfl;exact .inr ⟨_,rfl⟩) (by rw[hs];rfl) (by rw[hs];simp) (gf _) (by omega) hb.1 hb.2.1
 have WC:0<(aN q).length:=by rw[hs];simp
 have hg:∀h:0<(aN q).length,(aN q)[0]'h=45:=fun h=>by
  have h1:=List.getElem?_eq_getElem h;have h2:(aN q)[0]? =some 45:=by rw[hs];rfl
  rw[h2] at h1;exact(Option.some.inj h1).symm
 have A':(aN q).length=1+((aS q.num.natAbs).length+rest.length):=by rw[hs,List.length_cons,List.length_append,Nat.add_comm]
 have Xf:xc 0 (aS q.num.natAbs)=q.num.natAbs:=fT _;have hub:q.num.natAbs<10 ^ (aS q.num.natAbs).length:=eF _;have hb1:=hb.1;simp[aj,aD,f177] at hb1;obtain⟨rfl,rfl⟩:=hb1;by_cases h9:(aS q.num.natAbs).length≤9
 ·have Zy:=fun y' d h=>(hF y' d h).1 h9
  obtain⟨en,hen⟩:∃en:Nat,en=1+(aS q.num.natAbs).length:=⟨_,rfl⟩
  rw[←hen] at Zy;have hub2:10 ^ (aS q.num.natAbs).length≤1000000000:=Nat.le_trans (Nat.pow_le_pow_right (by omega) h9) (by decide);have Xu:IntKind.i64.wrap (-((q.num.natAbs:Nat):Int))=q.num:=by rw[ai (by omega) (by omega)];omega
  by_cases hd:q.den=1
  ·rw[if_pos hd] at WG
   have hi:(en:Int)=((aN q).length:Int):=by rw[A',WG,hen];simp
   simp[ad,hG,f177,hg,WC,Zy,Xf,Xu,hi,hd,h9]
  ·rw[if_neg hd] at WG
   have hlen2:(aN q).length=en+((aS q.den).length+1):=by rw[A',WG,List.length_cons,hen];omega
   have hi:¬(en:Int)=((aN q).length:Int):=by omega
   obtain⟨bg,hbg⟩:∃bg:Nat,bg=en+1:=⟨_,rfl⟩
   have hw:IntKind.i64.wrap ((en:Int)+1)=(bg:Int):=by rw[ai (by omega) (by omega)];omega
   obtain⟨F2,P'⟩:=sE (O:=bt) (K:=(aN q).length+1) (lv:=dW) (aN q) (aS q.den) bg hl
    (by rw[hs,WG,hbg,hen,show 1+(aS q.num.natAbs).length+1=((aS q.num.natAbs).length+1)+1 by omega,List.drop_succ_cons,List.drop_append];simp) (by omega) (gf _) (by omega) hb.1 hb.2.2
   have hval2:xc 0 (aS q.den)=q.den:=fT _;by_cases h10:(aS q.den).length≤9
   ·have Zz:=fun y' d h=>(P' y' d h).1 h10
    simp[ad,hG,f177,hg,WC,Zy,Xf,Xu,hi,hd,h9,hw,Zz,hval2,h10]
   ·have Zz:=fun y' d h=>(P' y' d h).2 (by omega)
    simp[ad,hG,f177,hg,WC,Zy,hi,hd,h9,hw,Zz,h10]
 ·have Zy:=fun y' d h=>(hF y' d h).2 (by omega)
  simp[ad,hG,f177,hg,WC,Zy,h9]
theorem Gv(mem:Mem):mB prog 177 [.str (aN q)] mem
  (if (aS q.num.natAbs).length≤9∧(q.den=1∨(aS q.den).length≤9) then .tuple [.int .i64 q.num,.int .i64 q.den,.bool true] else .tuple [.int .i64 0,.int .i64 0,.bool false]) mem:=by
 by_cases hq:0≤q.num
 ·exact yq q hl hq mem
 ·exact yp q hl (by omega) mem
end
def euc:Nat→Int→Int→Int
 |0,x,_=>x
 |k+1,x,y=>if y=0 then x else euc k y (x.tmod y)
theorem rW:∀(k:Nat) (x y:Int),y.natAbs<k→(euc k x y).natAbs=x.natAbs.gcd y.natAbs
 |0,_,_,h=>by omega
 |k+1,x,y,h=>by
  unfold euc;by_cases hy:y=0
  ·subst hy;rw[if_pos rfl];simp
  ·rw[if_neg hy]
   have AC:(x.tmod y).natAbs<k:=by rw[Int.natAbs_tmod];have:=Nat.mod_lt x.natAbs (show 0<y.natAbs by omega);omega
   rw[rW k y (x.tmod y) AC,Int.natAbs_tmod,Nat.gcd_comm x.natAbs,Nat.gcd_rec y.natAbs x.natAbs,Nat.gcd_comm]
theorem AF(y':Env)(d:Bool)(hb:aj f183=[b]):
  ∀(k:Nat) (x y:Int),y.natAbs<k→∃z',gl [5,6] (ab b) y' 0 (aQ (aC prog) lv O K 35 0 true b) k ⟨az [5,6] (ab b) y' ((5,.int .i64 x)::(6,.int .i64 y)::y'),[],d⟩=
   some (.exit 0,⟨z',[],d⟩)∧aa z' 5=.int .i64 (euc k x y)∧aa z' 0=aa y' 0∧aa z' 1=aa y' 1∧aa z' 4=aa y' 4:=by
 simp[aj,aD,f183] at hb;intro k;induction k with
 |zero=>intro x y h;omega
 |succ k ih=>
  intro x y hk;by_cases hy:y=0
  ·subst hb
   subst hy;simp[gl,euc]
  ·have AC:(x.tmod y).natAbs<k:=by rw[Int.natAbs_tmod];have:=Nat.mod_lt x.natAbs (show 0<y.natAbs by omega);omega
   obtain⟨z',e1,e2,e4⟩:=ih y (x.tmod y) AC;subst hb;refine⟨z',?_,by rw[e2,euc,if_neg hy],e4⟩;rw[gl];simp[hy];simp at e1;exact e1
theorem yK(hb:aj f183=[b])(XZ:lv b=[5,6])(n:Int)(m:Nat)(hK:m<K):
  ∃F:Env→Bool→Env,∀y' d,(aa y' 5=.int .i64 n∧aa y' 6=.int .i64 m)→
   aQ (aC prog) lv O K 35 0 true (.loop b) ⟨y',[],d⟩=some (.exit 0,⟨F y' d,[],d⟩)∧aa (F y' d) 5=.int .i64 (euc K n m)∧
    aa (F y' d) 0=aa y' 0∧aa (F y' d) 1=aa y' 1∧aa (F y' d) 4=aa y' 4:=by
 refine rq (p:=fun y' _=>aa y' 5=.int .i64 n∧aa y' 6=.int .i64 m) (q:=fun y' d e' =>aQ (aC prog) lv O K 35 0 true (.loop b) ⟨y',[],d⟩=some (.exit 0,⟨e',[],d⟩)∧aa e' 5=.int .i64 (euc K n m)∧
    aa e' 0=aa y' 0∧aa e' 1=aa y' 1∧aa e' 4=aa y' 4) ?_
 rintro y' d ⟨h5,h6⟩;obtain⟨z',e1,e2⟩:=AF (O:=O) (K:=K) (lv:=lv) y' d hb K n m (by simpa using hK);have hn:az [5,6] (ab b) y' ((5,.int .i64 n)::(6,.int .i64 (m:Int))::y')=az [5,6] (ab b) y' y':=by simp[az,h5,h6]
 rw[hn] at e1;exact⟨z',by rw[aR,XZ];exact e1,e2⟩
theorem Gy(n:Int)(m:Nat)(hn:n.natAbs≤4611686018427387904)(Xe:m≠0)(hm:m≤4611686018427387904)(mem:Mem):mB prog 183 [.int .i64 n,.int .i64 m] mem (.str (aN (Rat.normalize n m Xe))) mem:=by
 have hG:aO prog 183=some f183:=by kernel_rfl
 refine aB dM (lv:=fun _=>[5,6]) (K:=m+1) rfl rfl ?_ mem;obtain⟨b,hb⟩:∃b,aj f183=[b]:=⟨_,rfl⟩
 obtain⟨F,hF⟩:=yK (O:=ar aT) (K:=m+1) (lv:=fun _=>[5,6]) hb rfl n m (by omega);simp[aj,aD,f183] at hb;subst hb;have hg:=rW (m+1) n m (by simp);generalize euc (m+1) n m=g at hF hg;rw[Int.natAbs_natCast] at hg;have hgd:n.natAbs.gcd m∣m:=Nat.gcd_dvd_right _ _;have hgn:n.natAbs.gcd m∣n.natAbs:=Nat.gcd_dvd_left _ _;have hgp:0<n.natAbs.gcd m:=Nat.gcd_pos_of_pos_right _ (by omega);have hgm:n.natAbs.gcd m≤m:=Nat.le_of_dvd (by omega) hgd;obtain⟨txt,htxt,hdef⟩:∃txt,aN (Rat.normalize n m Xe)=txt∧txt=if m / n.natAbs.gcd m=1 then cN (n / (n.natAbs.gcd m:Nat)) else cN (n / (n.natAbs.gcd m:Nat))++47::aS (m / n.natAbs.gcd m):=
  ⟨_,rfl,by rw[Rat.normalize_eq];rfl⟩
 rw[htxt];generalize n.natAbs.gcd m=G at*;have hdn:(G:Int)∣n:=Int.ofNat_dvd_left.2 hgn;have hdm:(G:Int)∣(m:Int):=Int.ofNat_dvd.2 hgd;obtain⟨p,hp⟩:∃p:Int,p=n / (G:Int):=⟨_,rfl⟩
 obtain⟨e,he⟩:∃e:Nat,e=m / G:=⟨_,rfl⟩
 rw[←hp,←he] at hdef;have hq1:IntKind.i64.wrap (n.tdiv (G:Int))=p:=by
  rw[Int.tdiv_eq_ediv_of_dvd hdn,←hp];have:p.natAbs≤n.natAbs:=by rw[hp,←Int.tdiv_eq_ediv_of_dvd hdn,Int.natAbs_tdiv];exact Nat.div_le_self _ _
  exact ai (by omega) (by omega)
 have hq2:IntKind.i64.wrap ((m:Int).tdiv (G:Int))=(e:Int):=by
  have h1:(m:Int).tdiv (G:Int)=(e:Int):=by rw[he,←Int.ofNat_tdiv]
  have h2:e≤m:=by rw[he];exact Nat.div_le_self _ _
  rw[h1];exact ai (by omega) (by omega)
 have hq2' :IntKind.i64.wrap ((m:Int) / (G:Int))=(e:Int):=by rw[←Int.tdiv_eq_ediv_of_dvd hdm];exact hq2
 have hGn:¬G=0:=by omega
 have hpn: -4611686018427387904≤p∧p≤4611686018427387904:=by
  have:p.natAbs≤n.natAbs:=by rw[hp,←Int.tdiv_eq_ediv_of_dvd hdn,Int.natAbs_tdiv];exact Nat.div_le_self _ _
  omega
 have hem:e≤4611686018427387904:=by
  have h2:e≤m:=by rw[he];exact Nat.div_le_self _ _
  omega
 have Xl:jC p=true:=by simp only[jC,Bool.and_eq_true,decide_eq_true_eq];omega
 have hf2:jC (e:Int)=true:=by simp only[jC,Bool.and_eq_true,decide_eq_true_eq];omega
 have hie:cN (e:Int)=aS e:=rfl;have hgG:(g<0→IntKind.i64.wrap (-g)=(G:Int))∧(¬g<0→g=(G:Int)):=⟨fun h=>by rw[ai (by omega) (by omega)];omega,fun h=>by omega⟩;have hlp:(cN p).length≤21:=by rw[RH];exact Lib.itoa_length_le p (by omega) (by omega)
 have Xr:(aS e).length≤19:=bC (by omega) (Nat.lt_of_le_of_lt hem (by decide));have hx1:(cN p).length+1≤9223372036854775807:=by omega
 have hx2:(cN p).length+1+(aS e).length≤9223372036854775807:=by omega
 by_cases hg0:g<0
 ·have hw:=hgG.1 hg0
  by_cases he1:e=1
  ·simp[ad,hG,f183,ar,aT,hF,hg0,hw,hGn,hq1,hq2',he1,Xl,hdef]
  ·have he1' :¬(e:Int)=1:=by omega
   simp[ad,hG,f183,ar,aT,hF,hg0,hw,hGn,hq1,hq2',he1,he1',Xl,hf2,hie,hdef,hx1,hx2,gd]
 ·have hw:=hgG.2 hg0
  have hGneg:¬(G:Int)<0:=by omega
  by_cases he1:e=1
  ·simp[ad,hG,f183,ar,aT,hF,hGneg,hw,hGn,hq1,hq2',he1,Xl,hdef]
  ·have he1' :¬(e:Int)=1:=by omega
   simp[ad,hG,f183,ar,aT,hF,hGneg,hw,hGn,hq1,hq2',he1,he1',Xl,hf2,hie,hdef,hx1,hx2,gd]
end Go.Proofs
