/- See K51. -/
import Derived.Test.YtffdedmakncfmaaGreatDoorK14
set_option linter.all false
namespace Go.Eng
def Jn(w x:Nat):List UInt8:=List.replicate (w-(au x).length) 48++au x
theorem ME(k:Nat) (r:List UInt8):rX 0 (List.replicate k 48++r)=rX 0 r:=by
 induction k with
 |zero=>rfl
 |succ k ih=>
  rw[List.replicate_succ,List.cons_append,dm]
  exact ih
theorem OH(w x:Nat):fx (Jn w x)=x:=by
 unfold Jn fx
 rw[ME]
 exact dj x
theorem P9(w x:Nat):(Jn w x).all isD=true:=by
 unfold Jn
 rw[List.all_append,cW,Bool.and_true,List.all_eq_true]
 intro c hc
 rw[(List.mem_replicate.1 hc).2];rfl
theorem Jo{w x:Nat}(hw:0<w) (hx:x<10 ^ w):(Jn w x).length=w:=by
 have:=aK hw hx
 unfold Jn
 simp only[List.length_append,List.length_replicate]
 omega
theorem CC{v:Nat}(hv:0<v) {t:List UInt8}(ht:t.all isD=true):gm (au v++t)=true:=by
 have h1:=cW v
 have h2:=gR v
 have h3:=zv v hv
 cases hl:au v with
 |nil=>exact absurd hl h2
 |cons c r=>
  rw[hl] at h1 h3
  simp only[List.all_cons,Bool.and_eq_true] at h1
  simp only[List.head?_cons,ne_eq,Option.some.injEq] at h3
  simp only[List.cons_append,gm,List.all_append,h1.1,h1.2,ht]
  simp[h3]
theorem Ka{w x v:Nat}(hw:0<w) (hx:x<10 ^ w) (hv:0<v):au (x+10 ^ w*v)=au v++Jn w x:=by
 have h:=tw (CC hv (P9 w x))
 rw[zV,dj,OH,Jo hw hx] at h
 rw[←h,Nat.mul_comm,Nat.add_comm]
theorem sZ{B:Nat}{l:List Nat}{j d:Nat}(h:l[j]? =some d):ay B (l.drop j)=d+B*ay B (l.drop (j+1)):=by
 have hj:=(List.getElem?_eq_some_iff.1 h)
 obtain⟨hj,rfl⟩:=hj
 rw[List.drop_eq_getElem_cons hj];rfl
theorem td{B n:Nat}(hB:2≤B) {j:Nat}(hj:j<(dig B n).length):0<ay B ((dig B n).drop j):=by
 rcases Nat.eq_zero_or_pos (ay B ((dig B n).drop j)) with h | h
 ·exfalso
  have h1:=ez hB (iQ (ct hB n) j)
  rw[h,dq] at h1
  have h2:bd (dig B n)=(dig B n):=cE hB n
  have h3:=pT B (l:=dig B n) (n:=j) (by omega)
  rw[h,Nat.mul_zero,Nat.add_zero,bU hB] at h3
  have h4:=fX (il (ct hB n) j)
  rw[←h3,List.length_take,Nat.min_eq_left (by omega)] at h4
  have h5:=er hB h4
  omega
 ·exact h
end Go.Eng
namespace Go.Proofs
open Go.Eng
def RA(e:Nat) (t:List UInt8):Mem:=List.replicate e .absent++[.cells true 6001 (iB t)]
theorem iq(e:Nat) (t:List UInt8):(RA e t).length=e+1:=by simp[RA]
theorem ML(e:Nat) (t:List UInt8) (h:e<(RA e t).length):(RA e t)[e]=.cells true 6001 (iB t):=by simp[RA]
theorem MM(e:Nat) (t s:List UInt8):(RA e t).set e .absent++[.cells true 6001 (iB s)]=RA (e+1) s:=by
 simp[RA,List.replicate_succ']
theorem BA{k:Nat}(h:k≤9):(([48,48,48,48,48,48,48,48,48]:List UInt8).drop k).take (9-k)=List.replicate (9-k) 48:=by
 have:k=0∨k=1∨k=2∨k=3∨k=4∨k=5∨k=6∨k=7∨k=8∨k=9:=by omega
 rcases this with rfl | rfl | rfl | rfl | rfl | rfl | rfl | rfl | rfl | rfl<;>rfl
noncomputable def iJ:Oracle:=(ai bh).or eF
theorem lh:OracleOk Tryz.prog iJ:=yn.or vn
theorem wJ(A0:Slot) (mn:Bool) (n:Nat) (bc:Slot) (env0:Env) (h1:ab env0 1=.ptr 1 0) (h3:ab env0 3=.ptr 2 0) {ps:Array Tmp}{asg body:Code}(hb:de Tryz.f142=[(ps,asg,body)])
  (j x e:Nat) (t:List UInt8) (hj:j+1<n) (hn:n≤1000000) (hx:x<1000000000) (ht:t.length≤90000000):
  eD Tryz.prog 4 [.int .i64 (j:Int),.int .u64 (x:Int)] (A0::.cells true 0 [.bool mn,.slice 0 0 n none]::.cells true aE [.ptr 2 0,.slice (e+5) 0 t.length none]::bc::.loop ⟨.ready,none,env0,34,ps,asg,body⟩::RA e t) (.bool true)
   (A0::.cells true 0 [.bool mn,.slice 0 0 n none]::.cells true aE [.ptr 2 0,.slice (e+2+5) 0 (t++Jn 9 x).length none]::bc::.loop ⟨.ready,none,env0,34,ps,asg,body⟩::RA (e+2) (t++Jn 9 x)):=by
 have hst:bW asg=true∧bW body=true∧ps= #[17,18]:=by
  simp[de,ef,Tryz.f142] at hb
  obtain⟨rfl,rfl,rfl⟩:=hb
  exact⟨by decide,by decide,rfl⟩
 obtain⟨hst1,hst2,rfl⟩:=hst
 obtain⟨k,hk⟩:∃k,k=(au x).length:=⟨_,rfl⟩
 obtain⟨d,hd⟩:∃d,d=au x:=⟨_,rfl⟩
 have hk9:k≤9:=by rw[hk];exact aK (by omega) hx
 have hp:Jn 9 x=List.replicate (9-k) 48++d:=by rw[hk,hd];rfl
 have hz:=BA hk9
 have w1:IntKind.i64.wrap ((n:Int)-1)=(n:Int)-1:=ag (by omega) (by omega)
 have hjI:(j:Int)<(n:Int)-1:=by omega
 have hx0:(x:Int)≤18446744073709551615:=by omega
 have hkI:(k:Int)≤9:=by omega
 have hl1:t.length+(9-k)≤100000000:=by omega
 have hl2:t.length+(9-k)+k≤100000000:=by omega
 rw[←hd] at hk
 rw[hp]
 have hc:eL (aO Tryz.prog) (fun _=>[]) iJ 1 4 [.int .i64 (j:Int),.int .u64 (x:Int)] (A0::.cells true 0 [.bool mn,.slice 0 0 n none]::.cells true aE [.ptr 2 0,.slice (e+5) 0 t.length none]::bc::.loop ⟨.ready,none,env0,34,#[17,18],asg,body⟩::RA e t)=
  some (.bool true,A0::.cells true 0 [.bool mn,.slice 0 0 n none]::.cells true aE [.ptr 2 0,.slice (e+2+5) 0 (t++(List.replicate (9-k) 48++d)).length none]::bc::.loop ⟨.ready,none,env0,34,#[17,18],asg,body⟩::RA (e+2) (t++(List.replicate (9-k) 48++d))):=by
  simp[eL,hst1,hst2]
  simp[de,ef,Tryz.f142] at hb
  obtain⟨rfl,rfl⟩:=hb
  clear hst1 hst2
  simp[h1,h3,w1,hjI,hx0,hkI,hz,←hd,←hk,iJ,Oracle.or,ai,bh,eF,oH,ku,iq,ML,MM,ao,iy,hl1,hl2]
  omega
 exact fL ae (aw _) lh hc
theorem ua(A0:Slot) (mn:Bool) (n:Nat) (bc:Slot) (env0:Env) (h1:ab env0 1=.ptr 1 0) (h3:ab env0 3=.ptr 2 0) {ps:Array Tmp}{asg body:Code}(hb:de Tryz.f142=[(ps,asg,body)])
  (j x e:Nat) (t:List UInt8) (hj:j+1<n) (hn:n≤1000000) (hx:x<1000000000) (ht:t.length≤90000000):
  eD Tryz.prog 6 [.int .i64 (j:Int),.int .u64 (x:Int)] (A0::.cells true 0 [.bool mn,.slice 0 0 n none]::.cells true aE [.ptr 2 0,.slice (e+7) 0 t.length none]::.cells true 1 (iB [45])::.absent::bc::.loop ⟨.ready,none,env0,34,ps,asg,body⟩::RA e t) (.bool true)
   (A0::.cells true 0 [.bool mn,.slice 0 0 n none]::.cells true aE [.ptr 2 0,.slice (e+2+7) 0 (t++Jn 9 x).length none]::.cells true 1 (iB [45])::.absent::bc::.loop ⟨.ready,none,env0,34,ps,asg,body⟩::RA (e+2) (t++Jn 9 x)):=by
 have hst:bW asg=true∧bW body=true∧ps= #[17,18]:=by
  simp[de,ef,Tryz.f142] at hb
  obtain⟨rfl,rfl,rfl⟩:=hb
  exact⟨by decide,by decide,rfl⟩
 obtain⟨hst1,hst2,rfl⟩:=hst
 obtain⟨k,hk⟩:∃k,k=(au x).length:=⟨_,rfl⟩
 obtain⟨d,hd⟩:∃d,d=au x:=⟨_,rfl⟩
 have hk9:k≤9:=by rw[hk];exact aK (by omega) hx
 have hp:Jn 9 x=List.replicate (9-k) 48++d:=by rw[hk,hd];rfl
 have hz:=BA hk9
 have w1:IntKind.i64.wrap ((n:Int)-1)=(n:Int)-1:=ag (by omega) (by omega)
 have hjI:(j:Int)<(n:Int)-1:=by omega
 have hx0:(x:Int)≤18446744073709551615:=by omega
 have hkI:(k:Int)≤9:=by omega
 have hl1:t.length+(9-k)≤100000000:=by omega
 have hl2:t.length+(9-k)+k≤100000000:=by omega
 rw[←hd] at hk
 rw[hp]
 have hc:eL (aO Tryz.prog) (fun _=>[]) iJ 1 6 [.int .i64 (j:Int),.int .u64 (x:Int)] (A0::.cells true 0 [.bool mn,.slice 0 0 n none]::.cells true aE [.ptr 2 0,.slice (e+7) 0 t.length none]::.cells true 1 (iB [45])::.absent::bc::.loop ⟨.ready,none,env0,34,#[17,18],asg,body⟩::RA e t)=
  some (.bool true,A0::.cells true 0 [.bool mn,.slice 0 0 n none]::.cells true aE [.ptr 2 0,.slice (e+2+7) 0 (t++(List.replicate (9-k) 48++d)).length none]::.cells true 1 (iB [45])::.absent::bc::.loop ⟨.ready,none,env0,34,#[17,18],asg,body⟩::RA (e+2) (t++(List.replicate (9-k) 48++d))):=by
  simp[eL,hst1,hst2]
  simp[de,ef,Tryz.f142] at hb
  obtain⟨rfl,rfl⟩:=hb
  clear hst1 hst2
  simp[h1,h3,w1,hjI,hx0,hkI,hz,←hd,←hk,iJ,Oracle.or,ai,bh,eF,oH,ku,iq,ML,MM,ao,iy,hl1,hl2]
  omega
 exact fL ae (aw _) lh hc
theorem wI(A0:Slot) (mn:Bool) (n:Nat) (bc:Slot) (env0:Env) (h1:ab env0 1=.ptr 1 0) (h3:ab env0 3=.ptr 2 0) {ps:Array Tmp}{asg body:Code}(hb:de Tryz.f142=[(ps,asg,body)])
  (j x:Nat) (hj:j+1=n) (hn:n≤1000000) (hx:x<1000000000):
  eD Tryz.prog 4 [.int .i64 (j:Int),.int .u64 (x:Int)] (A0::.cells true 0 [.bool mn,.slice 0 0 n none]::.cells true aE [.nilptr,.nilslice]::bc::[.loop ⟨.ready,none,env0,34,ps,asg,body⟩]) (.bool true)
   (A0::.cells true 0 [.bool mn,.slice 0 0 n none]::.cells true aE [.ptr 2 0,.slice (0+5) 0 (au x).length none]::bc::.loop ⟨.ready,none,env0,34,ps,asg,body⟩::RA 0 (au x)):=by
 have hst:bW asg=true∧bW body=true∧ps= #[17,18]:=by
  simp[de,ef,Tryz.f142] at hb
  obtain⟨rfl,rfl,rfl⟩:=hb
  exact⟨by decide,by decide,rfl⟩
 obtain⟨hst1,hst2,rfl⟩:=hst
 obtain⟨d,hd⟩:∃d,d=au x:=⟨_,rfl⟩
 have hk9:d.length≤9:=by rw[hd];exact aK (by omega) hx
 have hk1:d≠[]:=by rw[hd];exact gR x
 have w1:IntKind.i64.wrap ((n:Int)-1)=(n:Int)-1:=ag (by omega) (by omega)
 have hjI:¬(j:Int)<(n:Int)-1:=by omega
 have hx0:(x:Int)≤18446744073709551615:=by omega
 have hl1:d.length≤100000000:=by omega
 have hl2:1+d.length≤100000000:=by omega
 have hb45:gk (iB [45])=some [45]:=iy _
 rw[←hd]
 have hc:eL (aO Tryz.prog) (fun _=>[]) iJ 1 4 [.int .i64 (j:Int),.int .u64 (x:Int)] (A0::.cells true 0 [.bool mn,.slice 0 0 n none]::.cells true aE [.nilptr,.nilslice]::bc::[.loop ⟨.ready,none,env0,34,#[17,18],asg,body⟩])=
  some (.bool true,A0::.cells true 0 [.bool mn,.slice 0 0 n none]::.cells true aE [.ptr 2 0,.slice (0+5) 0 (d).length none]::bc::.loop ⟨.ready,none,env0,34,#[17,18],asg,body⟩::[.cells true 6001 (iB (d))]):=by
  simp[eL,hst1,hst2]
  simp[de,ef,Tryz.f142] at hb
  obtain⟨rfl,rfl⟩:=hb
  clear hst1 hst2
  simp[h1,h3,w1,hjI,hx0,←hd,iJ,Oracle.or,ai,bh,eF,oH,ku,ao,hl1,hk1]
  try omega
 exact fL ae (aw _) lh hc
theorem tZ(A0:Slot) (mn:Bool) (n:Nat) (bc:Slot) (env0:Env) (h1:ab env0 1=.ptr 1 0) (h3:ab env0 3=.ptr 2 0) {ps:Array Tmp}{asg body:Code}(hb:de Tryz.f142=[(ps,asg,body)])
  (j x:Nat) (hj:j+1=n) (hn:n≤1000000) (hx:x<1000000000):
  eD Tryz.prog 6 [.int .i64 (j:Int),.int .u64 (x:Int)] (A0::.cells true 0 [.bool mn,.slice 0 0 n none]::.cells true aE [.ptr 2 0,.slice 4 0 1 none]::.cells true 1 (iB [45])::.cells true 6001 (iB [45])::bc::[.loop ⟨.ready,none,env0,34,ps,asg,body⟩]) (.bool true)
   (A0::.cells true 0 [.bool mn,.slice 0 0 n none]::.cells true aE [.ptr 2 0,.slice (0+7) 0 (45::au x).length none]::.cells true 1 (iB [45])::.absent::bc::.loop ⟨.ready,none,env0,34,ps,asg,body⟩::RA 0 (45::au x)):=by
 have hst:bW asg=true∧bW body=true∧ps= #[17,18]:=by
  simp[de,ef,Tryz.f142] at hb
  obtain⟨rfl,rfl,rfl⟩:=hb
  exact⟨by decide,by decide,rfl⟩
 obtain⟨hst1,hst2,rfl⟩:=hst
 obtain⟨d,hd⟩:∃d,d=au x:=⟨_,rfl⟩
 have hk9:d.length≤9:=by rw[hd];exact aK (by omega) hx
 have hk1:d≠[]:=by rw[hd];exact gR x
 have w1:IntKind.i64.wrap ((n:Int)-1)=(n:Int)-1:=ag (by omega) (by omega)
 have hjI:¬(j:Int)<(n:Int)-1:=by omega
 have hx0:(x:Int)≤18446744073709551615:=by omega
 have hl1:d.length≤100000000:=by omega
 have hl2:1+d.length≤100000000:=by omega
 have hb45:gk (iB [45])=some [45]:=iy _
 rw[←hd]
 have hc:eL (aO Tryz.prog) (fun _=>[]) iJ 1 6 [.int .i64 (j:Int),.int .u64 (x:Int)] (A0::.cells true 0 [.bool mn,.slice 0 0 n none]::.cells true aE [.ptr 2 0,.slice 4 0 1 none]::.cells true 1 (iB [45])::.cells true 6001 (iB [45])::bc::[.loop ⟨.ready,none,env0,34,#[17,18],asg,body⟩])=
  some (.bool true,A0::.cells true 0 [.bool mn,.slice 0 0 n none]::.cells true aE [.ptr 2 0,.slice (0+7) 0 (45::d).length none]::.cells true 1 (iB [45])::.absent::bc::.loop ⟨.ready,none,env0,34,#[17,18],asg,body⟩::[.cells true 6001 (iB (45::d))]):=by
  simp[eL,hst1,hst2]
  simp[de,ef,Tryz.f142] at hb
  obtain⟨rfl,rfl⟩:=hb
  clear hst1 hst2
  simp[h1,h3,w1,hjI,hx0,←hd,iJ,Oracle.or,ai,bh,eF,oH,ku,ao,hl2,hb45]
  try omega
 exact fL ae (aw _) lh hc
theorem GN{l:List Nat}{j:Nat}(h:j+1=l.length):l.drop (j+1)=[]:=List.drop_of_length_le (by omega)
theorem Hm{m k:Nat}{mem:Mem}{s:Slot}(h:mem[k]? =some s) (hr:s.refs m=[]):mU m mem 1000 [k] []=[k]:=by
 have:mem.getD k .absent=s:=by simp[List.getD,h]
 unfold mU
 rw[this,hr]
 simp only[List.contains_nil,Bool.false_eq_true,if_false,List.nil_append,List.append_nil]
 rfl
def lg(A:List Nat) (mn:Bool) (lp:Slot) (j:Nat):Mem:=
 if j=A.length then .cells false 1 (iN .u64 A)::.cells true 0 [.bool mn,.slice 0 0 A.length none]::.cells true aE [.nilptr,.nilslice]::.cells true 0 [.slice 0 0 A.length none]::[lp]
 else .cells false 1 (iN .u64 A)::.cells true 0 [.bool mn,.slice 0 0 A.length none]::.cells true aE [.ptr 2 0,.slice (2*(A.length-1-j)+5) 0 (au (ay 1000000000 (A.drop j))).length none]::.cells true 0 [.slice 0 0 A.length none]::lp::RA (2*(A.length-1-j)) (au (ay 1000000000 (A.drop j)))
theorem wK(v:Nat) (mn:Bool) (hv:0<v) (hl:(dig 1000000000 v).length≤1000000) {ps:Array Tmp}{asg body:Code}(hb:de Tryz.f142=[(ps,asg,body)]) (env0:Env)
  (h1:ab env0 1=.ptr 1 0) (h3:ab env0 3=.ptr 2 0) (he:env0.flatMap (fun e=>e.2.refs 5)=[]):
  ACallsTo Tryz.prog 245 [.yield 4,.ptr 3 0] [.cells false 1 (iN .u64 (dig 1000000000 v)),.cells true 0 [.bool mn,.slice 0 0 (dig 1000000000 v).length none],.cells true aE [.nilptr,.nilslice],.cells true 0 [.slice 0 0 (dig 1000000000 v).length none],.loop ⟨.ready,none,env0,34,ps,asg,body⟩] (.tuple [])
   [.cells false 1 (iN .u64 (dig 1000000000 v)),.cells true 0 [.bool mn,.slice 0 0 (dig 1000000000 v).length none],.cells true aE [.ptr 2 0,.slice 5 0 (au v).length none],.cells true 0 [.slice 0 0 (dig 1000000000 v).length none],.loop ⟨.ready,none,env0,34,ps,asg,body⟩,.cells true 6001 (iB (au v))]:=by
 obtain⟨A,hA⟩:∃A,A=dig 1000000000 v:=⟨_,rfl⟩
 have hAl:lok 1000000000 A=true:=by rw[hA];exact ct (by omega) v
 have hAv:ay 1000000000 A=v:=by rw[hA];exact bU (by omega) v
 have hpos:∀j,j<A.length→0<ay 1000000000 (A.drop j):=fun j hj=>by rw[hA] at hj ⊢;exact td (by omega) hj
 rw[←hA] at hl ⊢
 have hn:0<A.length:=by
  rcases Nat.eq_zero_or_pos A.length with h | h
  ·rw[List.eq_nil_of_length_eq_zero h] at hAv;simp[ay] at hAv;omega
  ·exact h
 clear hA
 obtain⟨lp,hlp⟩:∃lp,lp=Slot.loop ⟨.ready,none,env0,34,ps,asg,body⟩:=⟨_,rfl⟩
 have hlr:Slot.refs 5 lp=[]:=by rw[hlp];exact tE he
 have hlren:∀ks,Slot.ren (rho 5 ks) lp=lp:=fun ks=>by rw[hlp];exact Ke he
 have hM0:lg A mn lp 0=.cells false 1 (iN .u64 A)::.cells true 0 [.bool mn,.slice 0 0 A.length none]::.cells true aE [.ptr 2 0,.slice (2*(A.length-1)+5) 0 (au v).length none]::.cells true 0 [.slice 0 0 A.length none]::lp::RA (2*(A.length-1)) (au v):=by
  unfold lg
  rw[if_neg (by omega),List.drop_zero,hAv,Nat.sub_zero]
 have hMn:lg A mn lp A.length=[.cells false 1 (iN .u64 A),.cells true 0 [.bool mn,.slice 0 0 A.length none],.cells true aE [.nilptr,.nilslice],.cells true 0 [.slice 0 0 A.length none],lp]:=by
  unfold lg
  rw[if_pos rfl]
 have hMj:∀j,j<A.length→lg A mn lp j=.cells false 1 (iN .u64 A)::.cells true 0 [.bool mn,.slice 0 0 A.length none]::.cells true aE [.ptr 2 0,.slice (2*(A.length-1-j)+5) 0 (au (ay 1000000000 (A.drop j))).length none]::.cells true 0 [.slice 0 0 A.length none]::lp::RA (2*(A.length-1-j)) (au (ay 1000000000 (A.drop j))):=fun j hj=>by
  unfold lg
  rw[if_neg (by omega)]
 have key:=qj (n:=A.length) (A:=A) rfl hn (by omega) 3 0 4 5 0 true false (lg A mn lp) (by rw[hMn];rfl)
  (fun j hj=>by
   rw[hMj j hj]
   by_cases hj1:j+1=A.length
   ·rw[hj1,hMn];simp[iq]
   ·rw[hMj (j+1) (by omega)];simp[iq];omega)
  (fun j hj=>by
   by_cases hj1:j=A.length
   ·rw[hj1,hMn];rfl
   ·rw[hMj j (by omega)];rfl)
  (fun j hj=>by
   by_cases hj1:j=A.length
   ·rw[hj1,hMn];rfl
   ·rw[hMj j (by omega)];rfl)
  (fun j hj=>by
   rw[hMj j hj]
   have h5:∀e,¬e+5<5:=fun e=>by omega
   simp[h5])
  (fun j hj=>by
   obtain⟨x,hx,hx'⟩:=cV hj
   have hg:A.getD j 0=x:=by simp[List.getD,hx]
   have hxb:=eS hAl hx
   rw[hg]
   by_cases hj1:j+1=A.length
   ·rw[hj1,hMn,hMj j hj]
    have e1:A.length-1-j=0:=by omega
    have e2:ay 1000000000 (A.drop j)=x:=by
     rw[sZ hx,GN hj1];simp[ay]
    rw[e1,e2,hlp]
    exact wI _ mn A.length _ env0 h1 h3 hb j x hj1 hl hxb
   ·rw[hMj j hj,hMj (j+1) (by omega)]
    have e1:2*(A.length-1-j)=2*(A.length-1-(j+1))+2:=by omega
    have e2:au (ay 1000000000 (A.drop j))=au (ay 1000000000 (A.drop (j+1)))++Jn 9 x:=by
     rw[sZ hx]
     exact Ka (w:=9) (by omega) hxb (hpos (j+1) (by omega))
    have e3:(au (ay 1000000000 (A.drop (j+1)))).length≤89000000:=by
     have h1:=fX (iQ hAl (j+1))
     have h2:(1000000000:Nat) ^ (A.drop (j+1)).length=10 ^ (9*(A.drop (j+1)).length):=by rw[Nat.pow_mul]
     rw[h2] at h1
     have h3:0<9*(A.drop (j+1)).length:=by simp;omega
     have h4:=aK h3 h1
     simp at h4;omega
    rw[e1,e2,hlp]
    exact wJ _ mn A.length _ env0 h1 h3 hb j x _ (au (ay 1000000000 (A.drop (j+1)))) (by omega) hl hxb (by first | omega | (simp only[List.length_cons];omega)))
  [2*(A.length-1)+5] (by
   rw[hM0]
   have h5:¬2*(A.length-1)+5<5:=by omega
   have hf:List.flatMap (Slot.refs 5) (List.take 5 (.cells false 1 (iN .u64 A)::.cells true 0 [.bool mn,.slice 0 0 A.length none]::.cells true aE [.ptr 2 0,.slice (2*(A.length-1)+5) 0 (au v).length none]::.cells true 0 [.slice 0 0 A.length none]::lp::RA (2*(A.length-1)) (au v)))=[2*(A.length-1)+5]:=by
    simp only[List.take_succ_cons,List.take_zero,List.flatMap_cons,List.flatMap_nil,hlr]
    simp[h5]
   rw[hf]
   exact Hm (s:=.cells true 6001 (iB (au v))) (by simp[RA]) (by simp)) (by
   rw[hM0]
   simp[iq])
 have h5:¬2*(A.length-1)+5<5:=by omega
 rw[hM0,hMn] at key
 simp only[List.take_succ_cons,List.take_zero,List.map_cons,List.map_nil,hlren] at key
 simpa [hlp,List.idxOf?,RA,h5] using key
def jh(A:List Nat) (mn:Bool) (lp:Slot) (j:Nat):Mem:=
 if j=A.length then .cells false 1 (iN .u64 A)::.cells true 0 [.bool mn,.slice 0 0 A.length none]::.cells true aE [.ptr 2 0,.slice 4 0 1 none]::.cells true 1 (iB [45])::.cells true 6001 (iB [45])::.cells true 0 [.slice 0 0 A.length none]::[lp]
 else .cells false 1 (iN .u64 A)::.cells true 0 [.bool mn,.slice 0 0 A.length none]::.cells true aE [.ptr 2 0,.slice (2*(A.length-1-j)+7) 0 (45::au (ay 1000000000 (A.drop j))).length none]::.cells true 1 (iB [45])::.absent::.cells true 0 [.slice 0 0 A.length none]::lp::RA (2*(A.length-1-j)) (45::au (ay 1000000000 (A.drop j)))
theorem ud(v:Nat) (mn:Bool) (hv:0<v) (hl:(dig 1000000000 v).length≤1000000) {ps:Array Tmp}{asg body:Code}(hb:de Tryz.f142=[(ps,asg,body)]) (env0:Env)
  (h1:ab env0 1=.ptr 1 0) (h3:ab env0 3=.ptr 2 0) (he:env0.flatMap (fun e=>e.2.refs 7)=[]):
  ACallsTo Tryz.prog 245 [.yield 6,.ptr 5 0] [.cells false 1 (iN .u64 (dig 1000000000 v)),.cells true 0 [.bool mn,.slice 0 0 (dig 1000000000 v).length none],.cells true aE [.ptr 2 0,.slice 4 0 1 none],.cells true 1 (iB [45]),.cells true 6001 (iB [45]),.cells true 0 [.slice 0 0 (dig 1000000000 v).length none],.loop ⟨.ready,none,env0,34,ps,asg,body⟩] (.tuple [])
   [.cells false 1 (iN .u64 (dig 1000000000 v)),.cells true 0 [.bool mn,.slice 0 0 (dig 1000000000 v).length none],.cells true aE [.ptr 2 0,.slice 7 0 (45::au v).length none],.cells true 1 (iB [45]),.absent,.cells true 0 [.slice 0 0 (dig 1000000000 v).length none],.loop ⟨.ready,none,env0,34,ps,asg,body⟩,.cells true 6001 (iB (45::au v))]:=by
 obtain⟨A,hA⟩:∃A,A=dig 1000000000 v:=⟨_,rfl⟩
 have hAl:lok 1000000000 A=true:=by rw[hA];exact ct (by omega) v
 have hAv:ay 1000000000 A=v:=by rw[hA];exact bU (by omega) v
 have hpos:∀j,j<A.length→0<ay 1000000000 (A.drop j):=fun j hj=>by rw[hA] at hj ⊢;exact td (by omega) hj
 rw[←hA] at hl ⊢
 have hn:0<A.length:=by
  rcases Nat.eq_zero_or_pos A.length with h | h
  ·rw[List.eq_nil_of_length_eq_zero h] at hAv;simp[ay] at hAv;omega
  ·exact h
 clear hA
 obtain⟨lp,hlp⟩:∃lp,lp=Slot.loop ⟨.ready,none,env0,34,ps,asg,body⟩:=⟨_,rfl⟩
 have hlr:Slot.refs 7 lp=[]:=by rw[hlp];exact tE he
 have hlren:∀ks,Slot.ren (rho 7 ks) lp=lp:=fun ks=>by rw[hlp];exact Ke he
 have hM0:jh A mn lp 0=.cells false 1 (iN .u64 A)::.cells true 0 [.bool mn,.slice 0 0 A.length none]::.cells true aE [.ptr 2 0,.slice (2*(A.length-1)+7) 0 (45::au v).length none]::.cells true 1 (iB [45])::.absent::.cells true 0 [.slice 0 0 A.length none]::lp::RA (2*(A.length-1)) (45::au v):=by
  unfold jh
  rw[if_neg (by omega),List.drop_zero,hAv,Nat.sub_zero]
 have hMn:jh A mn lp A.length=[.cells false 1 (iN .u64 A),.cells true 0 [.bool mn,.slice 0 0 A.length none],.cells true aE [.ptr 2 0,.slice 4 0 1 none],.cells true 1 (iB [45]),.cells true 6001 (iB [45]),.cells true 0 [.slice 0 0 A.length none],lp]:=by
  unfold jh
  rw[if_pos rfl]
 have hMj:∀j,j<A.length→jh A mn lp j=.cells false 1 (iN .u64 A)::.cells true 0 [.bool mn,.slice 0 0 A.length none]::.cells true aE [.ptr 2 0,.slice (2*(A.length-1-j)+7) 0 (45::au (ay 1000000000 (A.drop j))).length none]::.cells true 1 (iB [45])::.absent::.cells true 0 [.slice 0 0 A.length none]::lp::RA (2*(A.length-1-j)) (45::au (ay 1000000000 (A.drop j))):=fun j hj=>by
  unfold jh
  rw[if_neg (by omega)]
 have key:=qj (n:=A.length) (A:=A) rfl hn (by omega) 5 0 6 7 0 true false (jh A mn lp) (by rw[hMn];rfl)
  (fun j hj=>by
   rw[hMj j hj]
   by_cases hj1:j+1=A.length
   ·rw[hj1,hMn];simp[iq]
   ·rw[hMj (j+1) (by omega)];simp[iq];omega)
  (fun j hj=>by
   by_cases hj1:j=A.length
   ·rw[hj1,hMn];rfl
   ·rw[hMj j (by omega)];rfl)
  (fun j hj=>by
   by_cases hj1:j=A.length
   ·rw[hj1,hMn];rfl
   ·rw[hMj j (by omega)];rfl)
  (fun j hj=>by
   rw[hMj j hj]
   have h5:∀e,¬e+7<7:=fun e=>by omega
   simp[h5])
  (fun j hj=>by
   obtain⟨x,hx,hx'⟩:=cV hj
   have hg:A.getD j 0=x:=by simp[List.getD,hx]
   have hxb:=eS hAl hx
   rw[hg]
   by_cases hj1:j+1=A.length
   ·rw[hj1,hMn,hMj j hj]
    have e1:A.length-1-j=0:=by omega
    have e2:ay 1000000000 (A.drop j)=x:=by
     rw[sZ hx,GN hj1];simp[ay]
    rw[e1,e2,hlp]
    exact tZ _ mn A.length _ env0 h1 h3 hb j x hj1 hl hxb
   ·rw[hMj j hj,hMj (j+1) (by omega)]
    have e1:2*(A.length-1-j)=2*(A.length-1-(j+1))+2:=by omega
    have e2:au (ay 1000000000 (A.drop j))=au (ay 1000000000 (A.drop (j+1)))++Jn 9 x:=by
     rw[sZ hx]
     exact Ka (w:=9) (by omega) hxb (hpos (j+1) (by omega))
    have e3:(au (ay 1000000000 (A.drop (j+1)))).length≤89000000:=by
     have h1:=fX (iQ hAl (j+1))
     have h2:(1000000000:Nat) ^ (A.drop (j+1)).length=10 ^ (9*(A.drop (j+1)).length):=by rw[Nat.pow_mul]
     rw[h2] at h1
     have h3:0<9*(A.drop (j+1)).length:=by simp;omega
     have h4:=aK h3 h1
     simp at h4;omega
    rw[e1,e2,hlp]
    exact ua _ mn A.length _ env0 h1 h3 hb j x _ (45::au (ay 1000000000 (A.drop (j+1)))) (by omega) hl hxb (by first | omega | (simp only[List.length_cons];omega)))
  [2*(A.length-1)+7] (by
   rw[hM0]
   have h5:¬2*(A.length-1)+7<7:=by omega
   have hf:List.flatMap (Slot.refs 7) (List.take 7 (.cells false 1 (iN .u64 A)::.cells true 0 [.bool mn,.slice 0 0 A.length none]::.cells true aE [.ptr 2 0,.slice (2*(A.length-1)+7) 0 (45::au v).length none]::.cells true 1 (iB [45])::.absent::.cells true 0 [.slice 0 0 A.length none]::lp::RA (2*(A.length-1)) (45::au v)))=[2*(A.length-1)+7]:=by
    simp only[List.take_succ_cons,List.take_zero,List.flatMap_cons,List.flatMap_nil,hlr]
    simp[h5]
   rw[hf]
   exact Hm (s:=.cells true 6001 (iB (45::au v))) (by simp[RA]) (by simp)) (by
   rw[hM0]
   simp[iq])
 have h5:¬2*(A.length-1)+7<7:=by omega
 rw[hM0,hMn] at key
 simp only[List.take_succ_cons,List.take_zero,List.map_cons,List.map_nil,hlren] at key
 simpa [hlp,List.idxOf?,RA,h5] using key
end Go.Proofs
