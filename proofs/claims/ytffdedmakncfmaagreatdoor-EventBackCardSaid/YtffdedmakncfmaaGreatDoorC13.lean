/- See C54. -/
import Derived.Test.YtffdedmakncfmaaGreatDoorC11
import Derived.Test.YtffdedmakncfmaaGreatDoorC12
import Derived.Shelf.Strings.Builder1
set_option linter.all false
set_option maxRecDepth 100000
set_option maxHeartbeats 40000000
namespace Go.Proofs
open Go.Eng
open Tryz
noncomputable def bm(t:TypeId)(k:Nat):Field:=match prog.underlying t with
 |some (.struct fs)=>fs.getD k default
 |_=>default
theorem VM:bh prog 23=some ⟨.array 2 22,2,2,.agg #[.int .i8 0,.int .i8 0],true⟩:=by kernel_rfl
noncomputable def uP:Field:=bm 25 0
theorem Jk:uP.type=5:=by kernel_rfl
theorem Jj:uP.offset=0:=by kernel_rfl
noncomputable def uQ:Field:=bm 25 1
theorem Jm:uQ.type=23:=by kernel_rfl
theorem Jl:uQ.offset=1:=by kernel_rfl
noncomputable def uR:Field:=bm 25 2
theorem Jo:uR.type=4:=by kernel_rfl
theorem Jn:uR.offset=3:=by kernel_rfl
theorem VN:bh prog 25=some ⟨.struct #[uP,uQ,uR],4,4,.agg #[.int .u8 0,.int .i8 0,.int .i8 0,.bool false],true⟩:=by kernel_rfl
theorem VO:bh prog 26=some ⟨.array 6 22,6,6,.agg #[.int .i8 0,.int .i8 0,.int .i8 0,.int .i8 0,.int .i8 0,.int .i8 0],true⟩:=by kernel_rfl
noncomputable def uS:Field:=bm 28 0
theorem Jq:uS.type=26:=by kernel_rfl
theorem Jp:uS.offset=0:=by kernel_rfl
noncomputable def uT:Field:=bm 28 1
theorem Js:uT.type=4:=by kernel_rfl
theorem Jr:uT.offset=6:=by kernel_rfl
theorem VP:bh prog 28=some ⟨.struct #[uS,uT],7,7,.agg #[.int .i8 0,.int .i8 0,.int .i8 0,.int .i8 0,.int .i8 0,.int .i8 0,.bool false],true⟩:=by kernel_rfl
theorem VQ:bh prog 29=some ⟨.array 2 28,14,14,.agg #[.int .i8 0,.int .i8 0,.int .i8 0,.int .i8 0,.int .i8 0,.int .i8 0,.bool false,.int .i8 0,.int .i8 0,.int .i8 0,.int .i8 0,.int .i8 0,.int .i8 0,.bool false],true⟩:=by kernel_rfl
theorem VR:bh prog 30=some ⟨.array 8 22,8,8,.agg #[.int .i8 0,.int .i8 0,.int .i8 0,.int .i8 0,.int .i8 0,.int .i8 0,.int .i8 0,.int .i8 0],true⟩:=by kernel_rfl
theorem VS:bh prog 32=some ⟨.array 4 22,4,4,.agg #[.int .i8 0,.int .i8 0,.int .i8 0,.int .i8 0],true⟩:=by kernel_rfl
noncomputable def uU:Field:=bm 34 0
theorem Ju:uU.type=5:=by kernel_rfl
theorem Jt:uU.offset=0:=by kernel_rfl
noncomputable def uV:Field:=bm 34 1
theorem Jw:uV.type=28:=by kernel_rfl
theorem Jv:uV.offset=1:=by kernel_rfl
noncomputable def uW:Field:=bm 34 2
theorem Jy:uW.type=29:=by kernel_rfl
theorem Jx:uW.offset=8:=by kernel_rfl
noncomputable def uX:Field:=bm 34 3
theorem JA:uX.type=30:=by kernel_rfl
theorem Jz:uX.offset=22:=by kernel_rfl
noncomputable def uY:Field:=bm 34 4
theorem JC:uY.type=32:=by kernel_rfl
theorem JB:uY.offset=30:=by kernel_rfl
theorem VT:bh prog 34=some ⟨.struct #[uU,uV,uW,uX,uY],34,34,.agg #[.int .u8 0,.int .i8 0,.int .i8 0,.int .i8 0,.int .i8 0,.int .i8 0,.int .i8 0,.bool false,.int .i8 0,.int .i8 0,.int .i8 0,.int .i8 0,.int .i8 0,.int .i8 0,.bool false,.int .i8 0,.int .i8 0,.int .i8 0,.int .i8 0,.int .i8 0,.int .i8 0,.bool false,.int .i8 0,.int .i8 0,.int .i8 0,.int .i8 0,.int .i8 0,.int .i8 0,.int .i8 0,.int .i8 0,.int .i8 0,.int .i8 0,.int .i8 0,.int .i8 0],true⟩:=by kernel_rfl
noncomputable def uZ:Field:=bm 37 0
theorem JE:uZ.type=35:=by kernel_rfl
theorem JD:uZ.offset=0:=by kernel_rfl
noncomputable def ve:Field:=bm 37 1
theorem JG:ve.type=5:=by kernel_rfl
theorem JF:ve.offset=1:=by kernel_rfl
theorem VV:bh prog 37=some ⟨.struct #[uZ,ve],2,4,.agg #[.int .i16 0,.int .u8 0],true⟩:=by kernel_rfl
theorem VW:bh prog 39=some ⟨.array 3 37,6,12,.agg #[.int .i16 0,.int .u8 0,.int .i16 0,.int .u8 0,.int .i16 0,.int .u8 0],true⟩:=by kernel_rfl
noncomputable def vf:Field:=bm 44 0
theorem JI:vf.type=41:=by kernel_rfl
theorem JH:vf.offset=0:=by kernel_rfl
noncomputable def vh:Field:=bm 44 1
theorem JK:vh.type=42:=by kernel_rfl
theorem JJ:vh.offset=1:=by kernel_rfl
theorem VZ:bh prog 44=some ⟨.struct #[vf,vh],2,48,.agg #[.slice none 0 0,.slice none 0 0],true⟩:=by kernel_rfl
noncomputable def vi:Field:=bm 51 0
theorem JM:vi.type=47:=by kernel_rfl
theorem JL:vi.offset=0:=by kernel_rfl
noncomputable def vj:Field:=bm 51 1
theorem JO:vj.type=48:=by kernel_rfl
theorem JN:vj.offset=1:=by kernel_rfl
noncomputable def vm:Field:=bm 51 2
theorem JQ:vm.type=49:=by kernel_rfl
theorem JP:vm.offset=2:=by kernel_rfl
theorem V6:bh prog 51=some ⟨.struct #[vi,vj,vm],3,72,.agg #[.slice none 0 0,.slice none 0 0,.slice none 0 0],true⟩:=by kernel_rfl
noncomputable def pw:Field:=bm 54 0
theorem JT:pw.type=52:=by kernel_rfl
theorem JS:pw.offset=0:=by kernel_rfl
theorem JR:(pw.name = "_")=False:=eq_false (by decide +kernel)
noncomputable def pz:Field:=bm 54 1
theorem JW:pz.type=52:=by kernel_rfl
theorem JV:pz.offset=1:=by kernel_rfl
theorem JU:(pz.name = "_")=False:=eq_false (by decide +kernel)
noncomputable def pK:Field:=bm 54 2
theorem JZ:pK.type=52:=by kernel_rfl
theorem JY:pK.offset=2:=by kernel_rfl
theorem JX:(pK.name = "_")=False:=eq_false (by decide +kernel)
theorem V8:bh prog 54=some ⟨.struct #[pw,pz,pK],3,48,.agg #[.string ⟨#[]⟩,.string ⟨#[]⟩,.string ⟨#[]⟩],true⟩:=by kernel_rfl
noncomputable def pL:Field:=bm 56 0
theorem J4:pL.type=54:=by kernel_rfl
theorem J3:pL.offset=0:=by kernel_rfl
theorem J0:(pL.name = "_")=False:=eq_false (by decide +kernel)
noncomputable def pM:Field:=bm 56 1
theorem J7:pM.type=52:=by kernel_rfl
theorem J6:pM.offset=3:=by kernel_rfl
theorem J5:(pM.name = "_")=False:=eq_false (by decide +kernel)
theorem V9:bh prog 56=some ⟨.struct #[pL,pM],4,64,.agg #[.string ⟨#[]⟩,.string ⟨#[]⟩,.string ⟨#[]⟩,.string ⟨#[]⟩],true⟩:=by kernel_rfl
noncomputable def pN:Field:=bm 58 0
theorem Ka:pN.type=56:=by kernel_rfl
theorem J9:pN.offset=0:=by kernel_rfl
theorem J8:(pN.name = "_")=False:=eq_false (by decide +kernel)
noncomputable def pP:Field:=bm 58 1
theorem Kd:pP.type=54:=by kernel_rfl
theorem Kc:pP.offset=4:=by kernel_rfl
theorem Kb:(pP.name = "_")=False:=eq_false (by decide +kernel)
theorem Wa:bh prog 58=some ⟨.struct #[pN,pP],7,112,.agg #[.string ⟨#[]⟩,.string ⟨#[]⟩,.string ⟨#[]⟩,.string ⟨#[]⟩,.string ⟨#[]⟩,.string ⟨#[]⟩,.string ⟨#[]⟩],true⟩:=by kernel_rfl
noncomputable def vn:Field:=bm 61 0
theorem Kf:vn.type=54:=by kernel_rfl
theorem Ke:vn.offset=0:=by kernel_rfl
noncomputable def vo:Field:=bm 61 1
theorem Kh:vo.type=59:=by kernel_rfl
theorem Kg:vo.offset=3:=by kernel_rfl
noncomputable def vp:Field:=bm 61 2
theorem Kk:vp.type=54:=by kernel_rfl
theorem Kj:vp.offset=4:=by kernel_rfl
theorem Wc:bh prog 61=some ⟨.struct #[vn,vo,vp],7,120,.agg #[.string ⟨#[]⟩,.string ⟨#[]⟩,.string ⟨#[]⟩,.slice none 0 0,.string ⟨#[]⟩,.string ⟨#[]⟩,.string ⟨#[]⟩],true⟩:=by kernel_rfl
noncomputable def pQ:Field:=bm 63 0
theorem Kn:pQ.type=56:=by kernel_rfl
theorem Km:pQ.offset=0:=by kernel_rfl
theorem Kl:(pQ.name = "_")=False:=eq_false (by decide +kernel)
noncomputable def pR:Field:=bm 63 1
theorem Kq:pR.type=52:=by kernel_rfl
theorem Kp:pR.offset=4:=by kernel_rfl
theorem Ko:(pR.name = "_")=False:=eq_false (by decide +kernel)
noncomputable def pT:Field:=bm 63 2
theorem Kt:pT.type=9:=by kernel_rfl
theorem Ks:pT.offset=5:=by kernel_rfl
theorem Kr:(pT.name = "_")=False:=eq_false (by decide +kernel)
theorem Wd:bh prog 63=some ⟨.struct #[pQ,pR,pT],6,96,.agg #[.string ⟨#[]⟩,.string ⟨#[]⟩,.string ⟨#[]⟩,.string ⟨#[]⟩,.string ⟨#[]⟩,.string ⟨#[]⟩],true⟩:=by kernel_rfl
theorem G7:bh prog 64=some ⟨.array 4 3,4,32,.agg #[.int .i64 0,.int .i64 0,.int .i64 0,.int .i64 0],true⟩:=by kernel_rfl
noncomputable def pU:Field:=bm 66 0
theorem Kw:pU.type=64:=by kernel_rfl
theorem Kv:pU.offset=0:=by kernel_rfl
theorem Ku:(pU.name = "_")=False:=eq_false (by decide +kernel)
noncomputable def pV:Field:=bm 66 1
theorem Kz:pV.type=54:=by kernel_rfl
theorem Ky:pV.offset=4:=by kernel_rfl
theorem Kx:(pV.name = "_")=False:=eq_false (by decide +kernel)
theorem We:bh prog 66=some ⟨.struct #[pU,pV],7,80,.agg #[.int .i64 0,.int .i64 0,.int .i64 0,.int .i64 0,.string ⟨#[]⟩,.string ⟨#[]⟩,.string ⟨#[]⟩],true⟩:=by kernel_rfl
noncomputable def vt:Field:=bm 68 0
theorem KB:vt.type=3:=by kernel_rfl
theorem KA:vt.offset=0:=by kernel_rfl
noncomputable def vu:Field:=bm 68 1
theorem KD:vu.type=9:=by kernel_rfl
theorem KC:vu.offset=1:=by kernel_rfl
noncomputable def vv:Field:=bm 68 2
theorem KF:vv.type=51:=by kernel_rfl
theorem KE:vv.offset=2:=by kernel_rfl
noncomputable def vw:Field:=bm 68 3
theorem KH:vw.type=58:=by kernel_rfl
theorem KG:vw.offset=5:=by kernel_rfl
noncomputable def vx:Field:=bm 68 4
theorem KJ:vx.type=61:=by kernel_rfl
theorem KI:vx.offset=12:=by kernel_rfl
noncomputable def vy:Field:=bm 68 5
theorem KL:vy.type=63:=by kernel_rfl
theorem KK:vy.offset=19:=by kernel_rfl
noncomputable def vz:Field:=bm 68 6
theorem KN:vz.type=66:=by kernel_rfl
theorem KM:vz.offset=25:=by kernel_rfl
theorem Wf:bh prog 68=some ⟨.struct #[vt,vu,vv,vw,vx,vy,vz],32,504,.agg #[.int .i64 0,.string ⟨#[]⟩,.slice none 0 0,.slice none 0 0,.slice none 0 0,.string ⟨#[]⟩,.string ⟨#[]⟩,.string ⟨#[]⟩,.string ⟨#[]⟩,.string ⟨#[]⟩,.string ⟨#[]⟩,.string ⟨#[]⟩,.string ⟨#[]⟩,.string ⟨#[]⟩,.string ⟨#[]⟩,.slice none 0 0,.string ⟨#[]⟩,.string ⟨#[]⟩,.string ⟨#[]⟩,.string ⟨#[]⟩,.string ⟨#[]⟩,.string ⟨#[]⟩,.string ⟨#[]⟩,.string ⟨#[]⟩,.string ⟨#[]⟩,.int .i64 0,.int .i64 0,.int .i64 0,.int .i64 0,.string ⟨#[]⟩,.string ⟨#[]⟩,.string ⟨#[]⟩],true⟩:=by kernel_rfl
theorem Wg:bh prog 78=some ⟨.array 3 54,9,144,.agg #[.string ⟨#[]⟩,.string ⟨#[]⟩,.string ⟨#[]⟩,.string ⟨#[]⟩,.string ⟨#[]⟩,.string ⟨#[]⟩,.string ⟨#[]⟩,.string ⟨#[]⟩,.string ⟨#[]⟩],true⟩:=by kernel_rfl
noncomputable def vE:Field:=bm 80 0
theorem KP:vE.type=78:=by kernel_rfl
theorem KO:vE.offset=0:=by kernel_rfl
noncomputable def vH:Field:=bm 80 1
theorem KR:vH.type=54:=by kernel_rfl
theorem KQ:vH.offset=9:=by kernel_rfl
theorem Wh:bh prog 80=some ⟨.struct #[vE,vH],12,192,.agg #[.string ⟨#[]⟩,.string ⟨#[]⟩,.string ⟨#[]⟩,.string ⟨#[]⟩,.string ⟨#[]⟩,.string ⟨#[]⟩,.string ⟨#[]⟩,.string ⟨#[]⟩,.string ⟨#[]⟩,.string ⟨#[]⟩,.string ⟨#[]⟩,.string ⟨#[]⟩],true⟩:=by kernel_rfl
noncomputable def pW:Field:=bm 91 0
theorem KU:pW.type=52:=by kernel_rfl
theorem KT:pW.offset=0:=by kernel_rfl
theorem KS:(pW.name = "_")=False:=eq_false (by decide +kernel)
noncomputable def pX:Field:=bm 91 1
theorem KX:pX.type=52:=by kernel_rfl
theorem KW:pX.offset=1:=by kernel_rfl
theorem KV:(pX.name = "_")=False:=eq_false (by decide +kernel)
theorem Wi:bh prog 91=some ⟨.struct #[pW,pX],2,32,.agg #[.string ⟨#[]⟩,.string ⟨#[]⟩],true⟩:=by kernel_rfl
noncomputable def mP:Field:=bm 100 0
theorem GF:mP.type=52:=by kernel_rfl
theorem GD:mP.offset=0:=by kernel_rfl
theorem GC:(mP.name = "_")=False:=eq_false (by decide +kernel)
noncomputable def mQ:Field:=bm 100 1
theorem GI:mQ.type=52:=by kernel_rfl
theorem GH:mQ.offset=1:=by kernel_rfl
theorem GG:(mQ.name = "_")=False:=eq_false (by decide +kernel)
theorem Ts:bh prog 100=some ⟨.struct #[mP,mQ],2,32,.agg #[.string ⟨#[]⟩,.string ⟨#[]⟩],true⟩:=by kernel_rfl
theorem Ls:bh prog 102=some ⟨.array 2 3,2,16,.agg #[.int .i64 0,.int .i64 0],true⟩:=by kernel_rfl
theorem Tt:bh prog 122=some ⟨.array 3 52,3,48,.agg #[.string ⟨#[]⟩,.string ⟨#[]⟩,.string ⟨#[]⟩],true⟩:=by kernel_rfl
theorem Tu:bh prog 133=some ⟨.array 3 52,3,48,.agg #[.string ⟨#[]⟩,.string ⟨#[]⟩,.string ⟨#[]⟩],true⟩:=by kernel_rfl
theorem Tv:bh prog 135=some ⟨.array 3 133,9,144,.agg #[.string ⟨#[]⟩,.string ⟨#[]⟩,.string ⟨#[]⟩,.string ⟨#[]⟩,.string ⟨#[]⟩,.string ⟨#[]⟩,.string ⟨#[]⟩,.string ⟨#[]⟩,.string ⟨#[]⟩],true⟩:=by kernel_rfl
theorem Tw:bh prog 150=some ⟨.array 3 3,3,24,.agg #[.int .i64 0,.int .i64 0,.int .i64 0],true⟩:=by kernel_rfl
theorem Tx:bh prog 151=some ⟨.array 3 3,3,24,.agg #[.int .i64 0,.int .i64 0,.int .i64 0],true⟩:=by kernel_rfl
noncomputable def rV:Field:=bm 208 0
theorem GK:rV.type=4:=by kernel_rfl
theorem GJ:rV.offset=0:=by kernel_rfl
noncomputable def rW:Field:=bm 208 1
theorem GM:rW.type=206:=by kernel_rfl
theorem GL:rW.offset=1:=by kernel_rfl
theorem TB:bh prog 208=some ⟨.struct #[rV,rW],2,32,.agg #[.bool false,.slice none 0 0],true⟩:=by kernel_rfl
noncomputable def zr:Field:=bm 253 0
theorem GN:zr.type=250:=by kernel_rfl
noncomputable def rX:Field:=bm 253 1
theorem GP:rX.type=251:=by kernel_rfl
theorem GO:rX.offset=1:=by kernel_rfl
theorem TH:bh prog 253=some ⟨.struct #[zr,rX],2,32,.agg #[.pointer none,.slice none 0 0],true⟩:=by kernel_rfl
attribute [simp] VM Jk
attribute [simp] Jj Jm Jl Jo Jn VN VO Jq Jp
attribute [simp] Js Jr VP VQ VR VS
attribute [simp] Ju Jt Jw Jv Jy Jx JA Jz JC JB VT
attribute [simp] JE JD JG JF VV VW
attribute [simp] JI JH JK JJ VZ
attribute [simp] JM JL JO JN JQ JP V6
attribute [simp] JT JS JR JW JV JU JZ JY JX V8 J4 J3 J0
attribute [simp] J7 J6 J5 V9 Ka J9 J8 Kd Kc Kb Wa
attribute [simp] Kf Ke Kh Kg Kk Kj Wc
attribute [simp] Kn Km Kl Kq Kp Ko Kt Ks Kr Wd G7
attribute [simp] Kw Kv Ku Kz Ky Kx We
attribute [simp] KB KA KD KC
attribute [simp] KF KE KH KG KJ KI KL KK KN KM Wf Wg
attribute [simp] KP KO KR KQ Wh KU
attribute [simp] KT KS KX KW KV Wi GF GD GC GI GH GG Ts
attribute [simp] Ls Tt Tu Tv Tw Tx GK GJ GM GL
attribute [simp] TB GN GP GO TH
noncomputable def bI(f:FuncId)(args:List AV):Option AV:=
 match f,args with
 |205,[.str s,.int .i64 b,.int .i64 w]=>if s≠[]∧s.all isD=true∧s.length≤18∧b=10∧w=64 then some (.tuple [.int .u64 (eF s:Nat),.nilIface]) else none
 |209,[.int .u64 u,.int .i64 b]=>if 0≤u∧u≤18446744073709551615∧b=10 then some (.str (ai u.toNat)) else none
 |f,args=>aq f args
theorem B8:qS prog (ag bI):=bF fun f V v h mem=>by
 unfold bI at h;split at h
 ·split at h
  ·rename_i X
   obtain⟨Z,U,h3,rfl,rfl⟩:=X;cases h;exact BL _ Z U h3 mem
  ·cases h
 ·split at h
  ·rename_i X
   obtain⟨Z,U,rfl⟩:=X;cases h;have S:=(Int.toNat_lt Z).2 (show _<((18446744073709551616:Nat):Int) by omega);have:=Ag _ S mem;rw[Int.toNat_of_nonneg Z] at this;exact this
  ·cases h
 ·have:=dU.fn _ _ mem ⟨v,none,[]⟩ (by unfold ag;simp only;rw[h])
  simpa [y9.mem] using this
noncomputable def bR:afF:=fun c Z M=>((ag bI).or cb) c Z M
theorem rD:qS prog bR:=B8.or I9
def wk:List Nat→Mem
 | []=>[.cells true 0 [.bool false,.qF],.cells true 1 []]
 |x::l=>[.cells true 0 [.bool false,.qF],.qK,.cells true 1 (iN .u64 (x::l))]
def sV:List Nat→AV
 | []=>.slice 1 0 0 none
 |x::l=>.slice 2 0 (l.length+1) none
theorem EA{K:Nat}(y:List UInt8)(hd:y.all isD=true)(hs:y.length≤1000000)(I:y.length<K){b:Code}(H:ah f140=[b]):
  ∃F:Env→Bool→Env,∀Z d,(ad Z 3=.str y∧ad Z 5=.slice 1 0 0 none)→
   aW (bh prog) (fun _=>[3,5]) bR K 44 0 true (.loop b) ⟨Z,wk [],d⟩=some (.exit 0,⟨F Z d,wk (iH y),d⟩)∧
   (ad (F Z d) 5=sV (iH y)∧ad (F Z d) 2=ad Z 2∧ad (F Z d) 4=ad Z 4):=by
 refine bj rfl (fun Z=>ad Z 3=.str y∧ad Z 5=.slice 1 0 0 none) (fun Z G =>ad G 5=sV (iH y)∧ad G 2=ad Z 2∧ad G 4=ad Z 4) ?_;rintro Z d ⟨h3,h5⟩;simp[ah,aE,f140] at H;have X:aA [3,5] (ae b) Z ((3,.str y)::(5,sV [])::Z)=aA [3,5] (ae b) Z Z:=by simp[aA,h3,h5,sV]
 rw[←X];refine bz (α:=List UInt8×List Nat) (fun a=>⟨aA [3,5] (ae b) Z ((3,.str a.1)::(5,sV a.2)::Z),wk a.2,d⟩) (fun a=>a.1.length)
  (fun a=>a.1.all isD=true∧a.1.length≤y.length∧a.2++iH a.1=iH y) (.exit 0) _ d _ (by simp) ?_ K (y,[]) ⟨hd,Nat.le_refl _,rfl⟩ I
 rintro ⟨s,done⟩ ⟨UV,hle,J'⟩;simp only at UV hle J';clear X;subst H;by_cases hs0:s=[]
 ·right
  subst hs0;rw[Sa,List.append_nil] at J';rw[←J'];simp
 ·left
  have D:0<s.length:=List.length_pos_iff.2 hs0;rw[yM hs0] at J';have u:done.length≤1000000:=by have C:=(lV _ y (Nat.le_refl _) hd).2.2;rw[←J'] at C;simp at C;omega
  obtain⟨k,B⟩:=xE (s.length-9);rw[←B] at J';obtain⟨n,X⟩:=xE (eF (s.drop k));have o:n<1000000000:=by rw[X,B];exact PV UV
  rw[←X] at J';have w1:IntKind.i64.wrap ((s.length:Int)-9)=(s.length:Int)-9:=af;have O:(if (s.length:Int)-9<0 then (0:Int) else (s.length:Int)-9)=(k:Int):=by split<;>omega
  have m:k≤s.length:=by omega
  have V:(s.drop k).take (s.length-k)=s.drop k:=List.take_of_length_le (by simp);have U:s.drop k≠[]:=by intro e;have:=congrArg List.length e;simp at this;omega
  have S:=Bf UV k;have R:(s.drop k).length≤18:=by simp;omega
  have N:(k:Int)≤(s.length:Int):=by omega
  have M:(done.length+1)*8≤140737488355328:=by omega
  have L:done.length+1≤140737488355328:=by omega
  obtain⟨W,Q⟩:=xE (s.drop k);rw[←Q] at V U S R X;refine⟨(s.take k,done++[n]),?_⟩;refine br (r:=_∧_) (show((s.take k).all isD=true∧(s.take k).length≤y.length∧(done++[n])++iH (s.take k)=iH y)∧(s.take k).length<s.length by refine⟨⟨qi UV k,by simp;omega,?_⟩,by simp;omega⟩;rw[←J'];simp) ?_
  clear J';have j:0<(s.length:Int):=by omega
  cases done with
  |nil=>
   simp[wk,sV,bR,afF.or,ag,bI,D,w1,O,N,←Q,V,U,S,R,←X,ca,Nat.testBit]
  |cons x l=>
   have Y:(iN .u64 l).take l.length=iN .u64 l:=List.take_of_length_le (by simp);simp only[List.length_cons] at M L;simp[wk,sV,bR,afF.or,ag,bI,D,w1,O,N,←Q,V,U,S,R,←X,Y,M,L,ca,dn,Nat.testBit]
section
variable (z:Int)(hl:(ai z.natAbs).length≤1000000)
include z hl
theorem GZ:aa (bh prog) (fun _=>[3,5]) (aS prog) bR ((ai z.natAbs).length+1) 140 [.str (bB z)] []=
  some ⟨.agg [.bool (decide (z<0)),.slice 0 0 (aU (iH (ai z.natAbs))).length none],none,[.cells true 1 (iN .u64 (iH (ai z.natAbs)))]⟩:=by
 have C:aS prog 140=some f140:=by kernel_rfl
 obtain⟨b,U⟩:∃b,ah f140=[b]:=⟨_,rfl⟩
 obtain⟨F,X⟩:=EA (K:=(ai z.natAbs).length+1) (ai z.natAbs) (du _) hl (by omega) U;simp[ah,aE,f140] at U;subst U;obtain⟨B,u,N⟩:=lV _ (ai z.natAbs) (Nat.le_refl _) (du _);have S:iH (ai z.natAbs)≠[]:=by rw[yM (jG _)];simp
 obtain⟨Z,R⟩:=xE (iH (ai z.natAbs));rw[←R] at X B u N S ⊢;have o:wk Z=[.cells true 0 [.bool false,.qF],.qK,.cells true 1 (iN .u64 Z)]:=by cases Z<;>first | exact absurd rfl S | rfl
 have m:sV Z=.slice 2 0 Z.length none:=by cases Z<;>first | exact absurd rfl S | rfl
 rw[o,m] at X;simp only[wk] at X;obtain⟨L,M⟩:=xE ((ai z.natAbs).length);obtain⟨c,j⟩:=xE (α:=Nat) (L / 9+1);obtain⟨Q,V⟩:=xE (α:=Nat) (L / 9);rw[←M] at X hl N ⊢;have w1:IntKind.i64.wrap ((L:Int) / 9)=(Q:Int):=by rw[af];omega
 have Y :IntKind.i64.wrap ((L:Int).tdiv 9)=(Q:Int):=by rw[HT L 9,←V];exact af
 have w2:IntKind.i64.wrap ((Q:Int)+1)=(c:Int):=by rw[af];omega
 have W:8*(c:Int)≤281474976710656:=by omega
 have J:(c:Int)≤281474976710656:=by omega
 have hs2:∀G D l,aZ .u64 (G::D::.cells true 1 (iN .u64 Z)::l) (.slice 2 0 Z.length none)=some Z:=fun G D l=>aP rfl (by simp) (List.take_of_length_le (by simp))
 have O:Z.length≤1000000000:=by omega
 clear j V;simp[aa,C,f140,bR,cb,cg,bX,bH,afF.or,ag,bI,aq,aD,aJ,←M,w1,w2,W,J,X,hs2,O,bN,aF]
theorem Ny(M:Mem):kO prog 140 [.str (bB z)] M (.agg [.bool (decide (z<0)),.slice M.length 0 (dig 1000000000 z.natAbs).length none]) (M++[.cells true 1 (iN .u64 (dig 1000000000 z.natAbs))]):=by
 obtain⟨S,X,R⟩:=lV _ (ai z.natAbs) (Nat.le_refl _) (du _);rw[dz] at X;have V:aU (iH (ai z.natAbs))=dig 1000000000 z.natAbs:=by rw[←dJ (by omega) S,X]
 have h:=(ar aj (aK _) rD (aR _) (GZ z hl)).1;simp only[y9.mem,Option.getD_none,List.nil_append] at h;have U:=kO.agQ (m2:=[.cells true 1 (iN .u64 (dig 1000000000 z.natAbs))]) h rfl (fun b s Z=>by
  match b with
  |0=>simp at Z;subst Z;exact⟨_,rfl,.row (by rw[←V];exact dp _)⟩
  |b+1=>simp at Z)
 rw[V] at U;have h3:=kO.frame (M:=M) [] (m:=[]) (new:=[.cells true 1 (iN .u64 (dig 1000000000 z.natAbs))]) rfl (by simp) rfl (by simp) rfl U;simpa [AV.ren,AV.af9,fj] using h3
end
end Go.Proofs
namespace Go.Proofs
open Go.Eng Go.Shelf Go.RowKit Go.Sort
open Tryz
theorem Mi{P:Program}{e:TypeId}{n s d:Nat}(hd:P.depth=d+1)(hs:P.cellsOf e=s+1)(y:sameLayout P P.depth e e=true)(H:1≤n):liesAt P P.depth e n 0 e 1=true:=by rw[hd] at y;simp[hd,liesAt,rowAt,hs,y,H]
theorem At(n:Nat)(y:1≤n):liesAt prog prog.depth 253 n 0 253 1=true:=
 Mi (s:=1) (d:=prog.depth-1) (by kernel_rfl) (by kernel_rfl) (by kernel_rfl) y
theorem yh:prog.cellsOf 253=2:=by kernel_rfl
theorem qN:(prog.info? 253).map (·.size)=some 2:=by kernel_rfl
theorem uN(b:Nat)(w:World)(h0:w.cell? ⟨b,0,none⟩=some (.pointer (some ⟨b,0,none⟩))):
  Calls prog 244 #[.pointer (some ⟨b,0,none⟩)] w fun e w' =>e=.returned (.tuple #[])∧w' =w:=by
 obtain⟨j,Z,_⟩:=Option.map_eq_some_iff.1 qN
 go_enter func244,ntmps244
 go_wp2
 rw[Lib.run_neq_ptr_same w _ (tp:=250) (te:=253) (by kernel_rfl) Z]
 go_wp2
 go_end0
 exact⟨rfl,rfl⟩
theorem uk(b:Nat)(w:World)(h0:w.cell? ⟨b,0,none⟩=some (.pointer none))(n:Nat)(H:2≤n)(y:w.shape? b=some (253,n))(I:w.frozen? ⟨b,0,none⟩=false):
  Calls prog 244 #[.pointer (some ⟨b,0,none⟩)] w fun e w' =>e=.returned (.tuple #[])∧w' =w.setCell ⟨b,0,none⟩ (.pointer (some ⟨b,0,none⟩)):=by
 obtain⟨j,X,Z⟩:=Option.map_eq_some_iff.1 qN;have V:prog.underlying 250=some (.pointer 253):=by kernel_rfl
 have U:prog.underlying 318=some .unsafePointer:=by kernel_rfl
 go_enter func244,ntmps244
 go_wp2
 rw[Lib.run_to_unsafe w ⟨b,0,none⟩ V U X (by rw[Z];decide) y (Nat.lt_of_lt_of_le (Nat.zero_lt_succ 1) H)];simp only[Result.andThen];rw[Oper.upon_value]
 go_wp2
 rw[run_callFunc_extern func274 (by kernel_rfl) (by kernel_rfl) (by kernel_rfl) (e:=Extern.AbiNoEscape.same) (by kernel_rfl)];rw[Lib.run_noEscape];simp only[Result.andThen];rw[Oper.upon_value]
 go_wp2
 rw[Lib.run_from_unsafe w ⟨b,0,none⟩ U V X y (At _ (by rw[yh];omega))];simp only[Result.andThen];rw[Oper.upon_value]
 go_wp2
 go_end0
 exact⟨rfl,rfl⟩
abbrev aL:Nat:=1000*(253+1)
theorem uj(mem:Mem)(b:Nat)(y:AV)(H:mem[b]? =some (.cells true aL [.ptr b 0,y])):
  kO prog 244 [.ptr b 0] mem (.tuple []) mem:=by
 refine⟨il _ func244 (by kernel_rfl) (by kernel_rfl),fun base μ w Vs hG hH hV=>?_⟩;obtain⟨X,_,rfl,hV,rfl⟩:=hV;simp only[afQ] at hV;have S:=hH.slot b _ H;simp only[af5] at S;obtain⟨Q,el,K,O,G,g3,N,M⟩:=S;obtain⟨R,F,D,C⟩:=M trivial;obtain⟨V,Z,U⟩:=N 0 _ rfl;simp only[afQ] at U;obtain⟨L,rfl⟩:=hV;rw[R] at U Z;rw[R];obtain⟨_,rfl⟩:=U;refine(uN (μ b).blk w (by simp only[World.cell?,O];exact Z)).mono ?_;rintro e w' ⟨rfl,rfl⟩;exact⟨_,_,_,μ,rfl,by simp[afQ,afS],hH,.refl (Nat.le_refl _),rfl,rfl⟩
theorem rf(mem:Mem)(b:Nat)(H:AV)(y:mem[b]? =some (.cells true aL [.af4,H])):
  kO prog 244 [.ptr b 0] mem (.tuple []) (mem.set b (.cells true aL [.ptr b 0,H])):=by
 refine⟨il _ func244 (by kernel_rfl) (by kernel_rfl),fun base μ w Vs hG hH hV=>?_⟩;obtain⟨X,_,rfl,hV,rfl⟩:=hV;simp only[afQ] at hV;have G:=hH.slot b _ y;simp only[af5] at G;obtain⟨Z,el,fr,O,F,g3,D,B⟩:=G;obtain⟨S,rfl,u,o⟩:=B trivial;obtain⟨V,R,C⟩:=D 0 _ rfl;obtain⟨m,Q,N⟩:=D 1 _ rfl;simp only[afQ] at C;obtain⟨M,rfl⟩:=hV;rw[S] at R Q;rw[S];subst C;have L:el=253:=by have:=F.2 (by decide);exact Nat.succ.inj this
 subst L;have K:w.cell? ⟨(μ b).blk,0,none⟩=some (.pointer none):=by simp only[World.cell?,O];exact R
 have Y:Z.size=2∨2<Z.size:=by simp only[List.length_cons,List.length_nil] at g3;omega
 refine(uk (μ b).blk w K Z.size (by omega) (by simp only[World.shape?,O]) (by simp[World.frozen?,O])).mono ?_;rintro e w' ⟨rfl,rfl⟩;obtain⟨W,J⟩:=hH.write (w' :=w.setCell ⟨(μ b).blk,0,none⟩ (.pointer (some ⟨(μ b).blk,0,none⟩))) (s' :=.cells true aL [.ptr b 0,H]) y (kc y) (fun _=>⟨_,List.getElem?_set_self (gL y),rfl⟩) rfl rfl rfl rfl (by simp[World.setCell]) (fun k I=>by simp[World.setCell,Array.getElem?_modify,Ne.symm I]) (by
  simp only[af5];refine⟨Z.setIfInBounds 0 (.pointer (some ⟨(μ b).blk,0,none⟩)),253,(0,0),by simp[World.setCell,Array.getElem?_modify,O],F,g3,fun j v U=>?_,fun _=>⟨S,rfl,by simpa using u,o⟩⟩
  match j,U with
  |0,U=>
   simp at U;subst U;refine⟨.pointer (some ⟨(μ b).blk,0,none⟩),?_,by simp[afQ,M,S]⟩;rw[S];have:0<Z.size:=by omega
   simp[this]
  |1,U=>
   simp at U;subst U;refine⟨m,?_,N⟩;rw[S];simpa using Q
  |j+2,U=>simp at U)
 exact⟨_,_,_,μ,rfl,by simp[afQ,afS],W,J,rfl,rfl⟩
end Go.Proofs
namespace Go.Proofs
open Go.Eng
open Tryz
def iB(s:List UInt8):List AV:=s.map fun c=>.int .u8 (c.toNat:Int)
@[simp] theorem YY (s:List UInt8):(iB s).length=s.length:=by simp[iB]
theorem Uh(s t:List UInt8):iB (s++t)=iB s++iB t:=by simp[iB]
@[simp] theorem ZS:iB []=[]:=rfl
@[simp] theorem ZC (m:Nat) (s:List UInt8):AV.af6 m (iB s)=[]:=by
 induction s with
 |nil=>rfl
 |cons c s ih=>simpa [iB,AV.af6,AV.refs] using ih
@[simp] theorem ZT (ρ:Nat→Option Nat) (s:List UInt8):AV.af9 ρ (iB s)=iB s:=by
 induction s with
 |nil=>rfl
 |cons c s ih=>simpa [iB,AV.af9,AV.ren] using ih
@[simp] theorem ZR (s:List UInt8) (p:AV→Prop):(∀x,x∈iB s→p x)↔∀c,c∈s→p (.int .u8 (c.toNat:Int)):=by simp[iB]
theorem kG(s:List UInt8):jv (iB s)=some s:=by
 induction s with
 |nil=>rfl
 |cons c s ih=>
  have Z:(0:Int)≤(c.toNat:Int)∧(c.toNat:Int)<256:=by have:=c.toNat_lt;omega
  show jv (.int .u8 (c.toNat:Int)::iB s)=_
  rw[jv,if_pos Z,ih];simp
noncomputable def gy:afF:=fun c Z M=>match c,Z with
 |.fn 244,[.ptr b 0]=>match M[b]? with
  |some (.cells true es [.af4,sl])=>if es=aL then some ⟨.tuple [],some (M.set b (.cells true aL [.ptr b 0,sl])),[]⟩ else none
  |some (.cells true es [.ptr b' 0,_])=>if es=aL∧b' =b then some ⟨.tuple [],none,[]⟩ else none
  |_=>none
 |_,_=>none
theorem pq:qS prog gy where
 fn f args mem r h:=by
  unfold gy at h;split at h
  ·rename_i V
   cases V;split at h
   ·rename_i b _ es X hb
    split at h
    ·rename_i Z
     cases h;subst Z;simpa [y9.mem] using rf mem b X hb
    ·cases h
   ·rename_i b _ es b' X hb
    split at h
    ·rename_i Z
     cases h;obtain⟨rfl,rfl⟩:=Z;simpa [y9.mem] using uj mem _ _ hb
    ·cases h
   ·cases h
  ·cases h
 yld b args mem r h:=by unfold gy at h;split at h<;>simp_all
 pre c args mem r p h hp:=by
  unfold gy at h;split at h
  ·split at h
   ·split at h
    ·cases h;cases hp;simp
    ·cases h
   ·split at h
    ·cases h;cases hp
    ·cases h
   ·cases h
  ·cases h
theorem Xo(s:List UInt8):(s.map fun c=>AV.int .u8 (c.toNat:Int))=iB s:=rfl
theorem Cx(M:Mem)(b:Nat)(s:List UInt8)(H:M[b]? =some (.cells true aL [.af4,.qF]))(hs:s≠[])(I:s.length≤100000000):
  dV (bh prog) (fun _=>[]) (aS prog) gy 1 210 [.ptr b 0,.str s] M=some (.tuple [.int .i64 (s.length:Int),.nilIface],M.set b (.cells true aL [.ptr b 0,.slice M.length 0 s.length none])++[.cells true 6001 (iB s)]):=by
 have R:aS prog 210=some f210:=by kernel_rfl
 have Z:b<M.length:=gL H;have V:s.length≤140737488355328:=by omega
 have X:∀x,(M.set b x)[b]? =some x:=fun x=>List.getElem?_set_self Z
 have U:∀x l,(M.set b x++l)[b]? =some x:=fun x l=>by rw[List.getElem?_append_left (by simpa using Z),X]
 have S:∀x y l,(M.set b x++l).set b y=M.set b y++l:=fun x y l=>by rw[List.set_append_left _ _ (by simpa using Z),List.set_set]
 clear Z;simp[dV,R,f210,gy,H,hs,V,X,U,S,Xo]
theorem vK(M:Mem)(b:Nat)(c:UInt8)(H:M[b]? =some (.cells true aL [.af4,.qF])):
  dV (bh prog) (fun _=>[]) (aS prog) gy 1 207 [.ptr b 0,.int .u8 (c.toNat:Int)] M=some (.nilIface,M.set b (.cells true aL [.ptr b 0,.slice (M.length+1) 0 1 none])++[.cells true 1 (iB [c]),.cells true 6001 (iB [c])]):=by
 have S:aS prog 207=some f207:=by kernel_rfl
 have Z:b<M.length:=gL H;have X:∀x,(M.set b x)[b]? =some x:=fun x=>List.getElem?_set_self Z
 have V:∀x l,(M.set b x++l)[b]? =some x:=fun x l=>by rw[List.getElem?_append_left (by simpa using Z),X]
 have U:∀x y l,(M.set b x++l).set b y=M.set b y++l:=fun x y l=>by rw[List.set_append_left _ _ (by simpa using Z),List.set_set]
 clear Z;simp[dV,S,f207,gy,H,X,V,U,iB]
theorem Cy(M:Mem)(b k:Nat)(t s:List UInt8)(H:M[b]? =some (.cells true aL [.ptr b 0,.slice k 0 t.length none]))(hk:M[k]? =some (.cells true 6001 (iB t)))(I:k≠b)(J:t.length+s.length≤100000000):
  dV (bh prog) (fun _=>[]) (aS prog) gy 1 210 [.ptr b 0,.str s] M=some (.tuple [.int .i64 (s.length:Int),.nilIface],(M.set k .qK).set b (.cells true aL [.ptr b 0,.slice M.length 0 (t.length+s.length) none])++[.cells true 6001 (iB (t++s))]):=by
 have Q:aS prog 210=some f210:=by kernel_rfl
 have Z:b<M.length:=gL H;have X:t.length+s.length≤140737488355328:=by omega
 have V:∀x,(M.set k x)[b]? =some (.cells true aL [.ptr b 0,.slice k 0 t.length none]):=fun x=>by rw[List.getElem?_set_ne I,H]
 have U:∀x l,(M.set k x++l)[b]? =some (.cells true aL [.ptr b 0,.slice k 0 t.length none]):=fun x l=>by rw[List.getElem?_append_left (by simpa using Z),V]
 have S:∀x y l,(M.set k x++l).set b y=(M.set k x).set b y++l:=fun x y l=>by rw[List.set_append_left _ _ (by simpa using Z)]
 have R:(iB t).take t.length=iB t:=List.take_of_length_le (by simp);clear Z;simp[dV,Q,f210,gy,H,hk,X,U,S,Xo,R,Uh]
theorem AF(y s1 H I:afU)(t:List UInt8)(J:t≠[])(W:t.length≤100000000):
  dV (bh prog) (fun _=>[]) (aS prog) cF 1 211 [.ptr 2 0] [y,s1,.cells true aL [.ptr 2 0,.slice 5 0 t.length none],H,I,.cells true 6001 (iB t)]=some (.str t,[y,s1,.cells true aL [.ptr 2 0,.slice 5 0 t.length none],H,I,.qK]):=by
 have V:aS prog 211=some f211:=by kernel_rfl
 have Z:(iB t).take t.length=iB t:=List.take_of_length_le (by simp);have X:(t.length:Int)≤9223372036854775807:=by omega
 have U:0<t.length:=List.length_pos_iff.2 J;simp[dV,V,f211,X,U,Z,kG,Nat.testBit]
theorem AG(y s1 H I J W:afU)(t:List UInt8)(Y:t≠[])(hl:t.length≤100000000):
  dV (bh prog) (fun _=>[]) (aS prog) cF 1 211 [.ptr 2 0] [y,s1,.cells true aL [.ptr 2 0,.slice 7 0 t.length none],H,I,J,W,.cells true 6001 (iB t)]=some (.str t,[y,s1,.cells true aL [.ptr 2 0,.slice 7 0 t.length none],H,I,J,W,.qK]):=by
 have V:aS prog 211=some f211:=by kernel_rfl
 have Z:(iB t).take t.length=iB t:=List.take_of_length_le (by simp);have X:(t.length:Int)≤9223372036854775807:=by omega
 have U:0<t.length:=List.length_pos_iff.2 Y;simp[dV,V,f211,X,U,Z,kG,Nat.testBit]
theorem xm:∀{cs:List AV} {t:List UInt8},jv cs=some t→cs=iB t
 | [],t,h=>by cases h;rfl
 |v::l,t,h=>by
  cases v<;>try (unfold jv at h;cases h;done)
  rename_i k n;cases k<;>try (unfold jv at h;cases h;done)
  unfold jv at h;split at h
  ·rename_i X
   split at h
   ·rename_i r Z
    cases h;have:=xm Z;rw[this];have e:n=max n 0%256:=by omega
    simp only[iB,List.map_cons,List.cons.injEq,AV.int.injEq,true_and,and_true,UInt8.toNat_ofNat'];omega
   ·cases h
  ·cases h
noncomputable def gn:afF:=fun c Z M=>match c,Z with
 |.fn 207,[.ptr b 0,.int .u8 n]=>match M[b]? with
  |some (.cells true es [.af4,.qF])=>if es=aL∧n=45 then some ⟨.nilIface,some (M.set b (.cells true aL [.ptr b 0,.slice (M.length+1) 0 1 none])),[.cells true 1 (iB [45]),.cells true 6001 (iB [45])]⟩ else none
  |_=>none
 |.fn 210,[.ptr b 0,.str s]=>match M[b]? with
  |some (.cells true es [.af4,.qF])=>if es=aL∧s≠[]∧s.length≤100000000 then some ⟨.tuple [.int .i64 (s.length:Int),.nilIface],some (M.set b (.cells true aL [.ptr b 0,.slice M.length 0 s.length none])),[.cells true 6001 (iB s)]⟩ else none
  |some (.cells true es [.ptr b' 0,.slice k 0 n none])=>match M[k]? with
   |some (.cells true es2 cs)=>match jv cs with
    |some t=>if es=aL∧b' =b∧es2=6001∧n=t.length∧k≠b∧t.length+s.length≤100000000 then
      some ⟨.tuple [.int .i64 (s.length:Int),.nilIface],some ((M.set k .qK).set b (.cells true aL [.ptr b 0,.slice M.length 0 (t.length+s.length) none])),[.cells true 6001 (iB (t++s))]⟩ else none
    |none=>none
   |_=>none
  |_=>none
 |.fn 211,[.ptr 2 0]=>match M with
  | [s0,s1,.cells true es [.ptr 2 0,.slice 5 0 n none],s3,s4,.cells true es2 cs]=>match jv cs with
   |some t=>if es=aL∧es2=6001∧n=t.length∧t≠[]∧t.length≤100000000 then
     some ⟨.str t,some [s0,s1,.cells true aL [.ptr 2 0,.slice 5 0 t.length none],s3,s4,.qK],[]⟩ else none
   |none=>none
  | [s0,s1,.cells true es [.ptr 2 0,.slice 7 0 n none],s3,s4,s5,s6,.cells true es2 cs]=>match jv cs with
   |some t=>if es=aL∧es2=6001∧n=t.length∧t≠[]∧t.length≤100000000 then
     some ⟨.str t,some [s0,s1,.cells true aL [.ptr 2 0,.slice 7 0 t.length none],s3,s4,s5,s6,.qK],[]⟩ else none
   |none=>none
  |_=>none
 |_,_=>none
theorem zp:qS prog gn where
 fn f args mem r h:=by
  unfold gn at h;split at h
  ·rename_i V
   cases V;split at h
   ·rename_i hb
    split at h
    ·rename_i Z
     cases h;obtain⟨rfl,rfl⟩:=Z;exact dZ aj (aK _) pq (aR _) (vK mem _ 45 hb)
    ·cases h
   ·cases h
  ·rename_i V
   cases V;split at h
   ·rename_i hb
    split at h
    ·rename_i Z
     cases h;obtain⟨rfl,X,h3⟩:=Z;exact dZ aj (aK _) pq (aR _) (Cx mem _ _ hb X h3)
    ·cases h
   ·rename_i hb
    split at h
    ·rename_i S
     split at h
     ·rename_i U
      split at h
      ·rename_i Z
       cases h;obtain⟨rfl,rfl,rfl,rfl,X,h3⟩:=Z;have:=xm U;subst this;exact dZ aj (aK _) pq (aR _) (Cy mem _ _ _ _ hb S X h3)
      ·cases h
     ·cases h
    ·cases h
   ·cases h
  ·rename_i V
   cases V;split at h
   ·split at h
    ·rename_i U
     split at h
     ·rename_i Z
      cases h;obtain⟨rfl,rfl,rfl,X,h3⟩:=Z;have:=xm U;subst this;simpa [y9.mem] using dZ aj (aK _) (aw _) (aR _) (AF _ _ _ _ _ X h3)
     ·cases h
    ·cases h
   ·split at h
    ·rename_i U
     split at h
     ·rename_i Z
      cases h;obtain⟨rfl,rfl,rfl,X,h3⟩:=Z;have:=xm U;subst this;simpa [y9.mem] using dZ aj (aK _) (aw _) (aR _) (AG _ _ _ _ _ _ _ X h3)
     ·cases h
    ·cases h
   ·cases h
  ·cases h
 yld b args mem r h:=by unfold gn at h;split at h<;>simp_all
 pre c args mem r p h hp:=by
  unfold gn at h
  repeat' split at h
  all_goals first
   |(cases h;done)
   |(cases h;cases hp;simp;done)
theorem TT{T:TypeId→Option TyI}{lv:Code→List Nat}{G:FuncId→Option Func}{O:afF}{K:Nat}{f:FuncId}{args:List AV}{mem y :Mem}{fn:Func}{c:Code}{v:AV}{e:Exit}{J :Env}{ks:List Nat}(hf:G f=some fn)(Y:fn.body=some c)(hl:args.length≤fn.ntmps)(he:e=.normal∨e=.ret)(h:aW T lv O K fn.ntmps mem.length true c ⟨dC 0 args,mem,false⟩=some (e,⟨J,y,true⟩))(W:jK T fn.results.toList J y =some v)(H:qZ mem.length y 1000 (v.refs mem.length++(y.take mem.length).flatMap (afU.refs mem.length)) []=ks)(I:EW mem.length y.length ks=true):
  aa T lv G O K f args mem=some ⟨v.ren (rho mem.length ks),some ((y.take mem.length).map (afU.ren (rho mem.length ks))),agK mem.length ks y⟩:=by
 unfold aa;simp only[hf,Y];rw[if_pos hl,h];rcases he with rfl | rfl
 ·simp only[W,if_true]
  rw[H,if_pos I]
 ·simp only[W,if_true]
  rw[H,if_pos I]
theorem uu{n:Nat}{A:List Nat}(hA:A.length=n)(hn:0<n)(hl:n≤1000000000)(H bA y m0 eb:Nat)(ob oA:Bool)(M:Nat→Mem)(I:(M n).length=m0)(G':∀j,j<n→(M (j+1)).length≤(M j).length∧m0<(M j).length)(hs:∀j,j≤n→(M j)[H]? =some (.cells ob eb [.slice bA 0 n none]))(hr:∀j,j≤n→(M j)[bA]? =some (.cells oA 1 (iN .u64 A)))(J:∀j,j<n→((M j).take m0).all (fun s=>(s.refs m0).isEmpty)=false)(hy:∀j,j<n→gk prog y [.int .i64 (j:Int),.int .u64 ((A.getD j 0:Nat):Int)] (M (j+1)) (.bool true) (M j))(ks:List Nat)(W:qZ m0 (M 0) 1000 (((M 0).take m0).flatMap (afU.refs m0)) []=ks)(Y:EW m0 (M 0).length ks=true):
  kO prog 245 [.yield y,.ptr H 0] (M n) (.tuple []) (((M 0).take m0).map (afU.ren (rho m0 ks))++agK m0 ks (M 0)):=by
 have m:aS prog 245=some f245:=by kernel_rfl
 obtain⟨O,hO,S⟩:=jJ (P:=prog) (fun j:Nat=>j<n) (fun _=>.yld y) (fun j=>[.int .i64 (j:Int),.int .u64 ((A.getD j 0:Nat):Int)]) (fun j=>M (j+1)) (fun j=>⟨.bool true,some ((M j).take (M (j+1)).length),(M j).drop (M (j+1)).length⟩)
  (fun j C=>⟨by simpa [y9.mem] using hy j C,fun q hq=>by cases hq;rw[List.length_take];have:=(G' j C).1;omega⟩)
  (fun i j _ _ _ h _=>by
   simp only[List.cons.injEq,AV.int.injEq] at h;have:i=j:=by omega
   rw[this])
 obtain⟨b,U⟩:∃b,ah f245=[b]:=⟨_,rfl⟩
 have loop:∃F:Env→Env,∀Z,(ad Z 0=.yield y∧ad Z 1=.ptr H 0∧ad Z 3=.int .i64 ((n:Int)-1))→
   aW (bh prog) (fun _=>[3]) O (n+1) 19 m0 true (.loop b) ⟨Z,M n,false⟩=some (.exit 0,⟨F Z,M 0,true⟩)∧True:=by
  refine v7 rfl false true (fun Z=>ad Z 0=.yield y∧ad Z 1=.ptr H 0∧ad Z 3=.int .i64 ((n:Int)-1)) (fun _ _=>True) ?_;rintro Z ⟨h0,R,h3⟩;simp[ah,aE,f245] at U;have V:aA [3] (ae b) Z ((3,.int .i64 ((n:Int)-1))::Z)=aA [3] (ae b) Z Z:=by simp[aA,h3]
  rw[←V];have B:(⟨aA [3] (ae b) Z ((3,.int .i64 ((n:Int)-1))::Z),M n,false⟩:XS)=⟨aA [3] (ae b) Z ((3,.int .i64 ((n:Int)-1))::Z),M n,decide (n<n)⟩:=by simp
  rw[B];refine bz (α:=Nat) (fun k=>⟨aA [3] (ae b) Z ((3,.int .i64 ((k:Int)-1))::Z),M k,decide (k<n)⟩) id (fun k=>k≤n) (.exit 0) (M 0) true (fun _=>True) (by simp) ?_ (n+1) n (Nat.le_refl _) (by simp);intro k hk;clear V B;subst U;cases k with
  |zero=>
   right;simp[hn]
  |succ k=>
   left;have X:k<n:=by omega
   have e1:(((k+1:Nat):Int)-1)=(k:Int):=by omega
   have w1:IntKind.i64.wrap ((k:Int)-1)=(k:Int)-1:=af;have l1:¬(M k).length≤m0:=by have:=(G' k X).2;omega
   have Q:=hs (k+1) (by omega);have r1:=hr (k+1) (by omega);have u:=S k X;have N:=J k X;obtain⟨x,hx,Z7⟩:=cO (l:=A) (i:=k) (by omega);have hg:A.getD k 0=x:=by simp[List.getD,hx]
   rw[hg] at u;rw[e1];refine⟨k,?_⟩;have aew :(k:Int)<(n:Int):=by omega
   simp[h0,R,w1,l1,I,Q,r1,Z7,hA,X,u,-List.all_eq_false];refine⟨fun h=>?_,by omega⟩;exfalso;have:((List.take m0 (M k)).all fun s=>(afU.refs m0 s).isEmpty)=true:=List.all_eq_true.2 fun s hs=>by
    have R:=h s hs;have L:afU.refs m0 s=[]:=by cases s<;>exact R
    rw[L];rfl
   rw[N] at this;cases this
 obtain⟨F,hF⟩:=loop;simp[ah,aE,f245] at U;subst U;have w1:IntKind.i64.wrap ((n:Int)-1)=(n:Int)-1:=af;have Q:=hs n (by omega);have K:∃o,aW (bh prog) (fun _=>[3]) O (n+1) f245.ntmps (M n).length true (f245.body.getD .skip) ⟨dC 0 [.yield y,.ptr H 0],M n,false⟩=some (.normal,⟨o,M 0,true⟩):=by simp[f245,Q,w1,I,hF]
 obtain⟨o,K⟩:=K;have D:aa (bh prog) (fun _=>[3]) (aS prog) O (n+1) 245 [.yield y,.ptr H 0] (M n)=some ⟨.tuple [],some (((M 0).take m0).map (afU.ren (rho m0 ks))),agK m0 ks (M 0)⟩:=by have:=TT (T:=bh prog) (G:=aS prog) (v:=.tuple []) m rfl (by simp[f245]) (.inl rfl) K rfl (ks:=ks) (by rw[I];simpa [AV.refs,AV.af6] using W) (by rw[I];exact Y);rw[I] at this;simpa [AV.ren,AV.af9] using this
 have L:=(ar aj (aK _) hO (aR _) D).1;simpa [y9.mem] using L
end Go.Proofs
