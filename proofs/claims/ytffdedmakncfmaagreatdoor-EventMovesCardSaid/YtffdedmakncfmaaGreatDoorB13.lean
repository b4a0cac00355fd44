/- See B54. -/
import Derived.Test.YtffdedmakncfmaaGreatDoorB11
import Derived.Test.YtffdedmakncfmaaGreatDoorB12
import Derived.Shelf.Strings.Builder1
set_option linter.all false
set_option maxRecDepth 100000
set_option maxHeartbeats 40000000
namespace Go.Proofs
open Go.Eng
open Tryz
noncomputable def bn(t:TypeId)(k:Nat):Field:=match prog.underlying t with
 |some (.struct fs)=>fs.getD k default
 |_=>default
theorem Ug:ba prog 23=some ⟨.array 2 22,2,2,.agg #[.int .i8 0,.int .i8 0],true⟩:=by kernel_rfl
noncomputable def tL:Field:=bn 25 0
theorem Ie:tL.type=5:=by kernel_rfl
theorem Ic:tL.offset=0:=by kernel_rfl
noncomputable def tM:Field:=bn 25 1
theorem Ig:tM.type=23:=by kernel_rfl
theorem If:tM.offset=1:=by kernel_rfl
noncomputable def tN:Field:=bn 25 2
theorem Ii:tN.type=4:=by kernel_rfl
theorem Ih:tN.offset=3:=by kernel_rfl
theorem Uh:ba prog 25=some ⟨.struct #[tL,tM,tN],4,4,.agg #[.int .u8 0,.int .i8 0,.int .i8 0,.bool false],true⟩:=by kernel_rfl
theorem Ui:ba prog 26=some ⟨.array 6 22,6,6,.agg #[.int .i8 0,.int .i8 0,.int .i8 0,.int .i8 0,.int .i8 0,.int .i8 0],true⟩:=by kernel_rfl
noncomputable def tP:Field:=bn 28 0
theorem Ik:tP.type=26:=by kernel_rfl
theorem Ij:tP.offset=0:=by kernel_rfl
noncomputable def tQ:Field:=bn 28 1
theorem Im:tQ.type=4:=by kernel_rfl
theorem Il:tQ.offset=6:=by kernel_rfl
theorem Uj:ba prog 28=some ⟨.struct #[tP,tQ],7,7,.agg #[.int .i8 0,.int .i8 0,.int .i8 0,.int .i8 0,.int .i8 0,.int .i8 0,.bool false],true⟩:=by kernel_rfl
theorem Uk:ba prog 29=some ⟨.array 2 28,14,14,.agg #[.int .i8 0,.int .i8 0,.int .i8 0,.int .i8 0,.int .i8 0,.int .i8 0,.bool false,.int .i8 0,.int .i8 0,.int .i8 0,.int .i8 0,.int .i8 0,.int .i8 0,.bool false],true⟩:=by kernel_rfl
theorem Ul:ba prog 30=some ⟨.array 8 22,8,8,.agg #[.int .i8 0,.int .i8 0,.int .i8 0,.int .i8 0,.int .i8 0,.int .i8 0,.int .i8 0,.int .i8 0],true⟩:=by kernel_rfl
theorem Um:ba prog 32=some ⟨.array 4 22,4,4,.agg #[.int .i8 0,.int .i8 0,.int .i8 0,.int .i8 0],true⟩:=by kernel_rfl
noncomputable def tS:Field:=bn 34 0
theorem Ip:tS.type=5:=by kernel_rfl
theorem Io:tS.offset=0:=by kernel_rfl
noncomputable def tT:Field:=bn 34 1
theorem Ir:tT.type=28:=by kernel_rfl
theorem Iq:tT.offset=1:=by kernel_rfl
noncomputable def tU:Field:=bn 34 2
theorem It:tU.type=29:=by kernel_rfl
theorem Is:tU.offset=8:=by kernel_rfl
noncomputable def tV:Field:=bn 34 3
theorem Iv:tV.type=30:=by kernel_rfl
theorem Iu:tV.offset=22:=by kernel_rfl
noncomputable def tW:Field:=bn 34 4
theorem Ix:tW.type=32:=by kernel_rfl
theorem Iw:tW.offset=30:=by kernel_rfl
theorem Un:ba prog 34=some ⟨.struct #[tS,tT,tU,tV,tW],34,34,.agg #[.int .u8 0,.int .i8 0,.int .i8 0,.int .i8 0,.int .i8 0,.int .i8 0,.int .i8 0,.bool false,.int .i8 0,.int .i8 0,.int .i8 0,.int .i8 0,.int .i8 0,.int .i8 0,.bool false,.int .i8 0,.int .i8 0,.int .i8 0,.int .i8 0,.int .i8 0,.int .i8 0,.bool false,.int .i8 0,.int .i8 0,.int .i8 0,.int .i8 0,.int .i8 0,.int .i8 0,.int .i8 0,.int .i8 0,.int .i8 0,.int .i8 0,.int .i8 0,.int .i8 0],true⟩:=by kernel_rfl
noncomputable def tX:Field:=bn 37 0
theorem Iz:tX.type=35:=by kernel_rfl
theorem Iy:tX.offset=0:=by kernel_rfl
noncomputable def tY:Field:=bn 37 1
theorem IB:tY.type=5:=by kernel_rfl
theorem IA:tY.offset=1:=by kernel_rfl
theorem Up:ba prog 37=some ⟨.struct #[tX,tY],2,4,.agg #[.int .i16 0,.int .u8 0],true⟩:=by kernel_rfl
theorem Uq:ba prog 39=some ⟨.array 3 37,6,12,.agg #[.int .i16 0,.int .u8 0,.int .i16 0,.int .u8 0,.int .i16 0,.int .u8 0],true⟩:=by kernel_rfl
noncomputable def tZ:Field:=bn 44 0
theorem ID:tZ.type=41:=by kernel_rfl
theorem IC:tZ.offset=0:=by kernel_rfl
noncomputable def ua:Field:=bn 44 1
theorem IF:ua.type=42:=by kernel_rfl
theorem IE:ua.offset=1:=by kernel_rfl
theorem Uu:ba prog 44=some ⟨.struct #[tZ,ua],2,48,.agg #[.slice none 0 0,.slice none 0 0],true⟩:=by kernel_rfl
noncomputable def uc:Field:=bn 51 0
theorem IH:uc.type=47:=by kernel_rfl
theorem IG:uc.offset=0:=by kernel_rfl
noncomputable def ud:Field:=bn 51 1
theorem IJ:ud.type=48:=by kernel_rfl
theorem II:ud.offset=1:=by kernel_rfl
noncomputable def ue:Field:=bn 51 2
theorem IL:ue.type=49:=by kernel_rfl
theorem IK:ue.offset=2:=by kernel_rfl
theorem Uz:ba prog 51=some ⟨.struct #[uc,ud,ue],3,72,.agg #[.slice none 0 0,.slice none 0 0,.slice none 0 0],true⟩:=by kernel_rfl
noncomputable def od:Field:=bn 54 0
theorem IP:od.type=52:=by kernel_rfl
theorem IN:od.offset=0:=by kernel_rfl
theorem IM:(od.name = "_")=False:=eq_false (by decide +kernel)
noncomputable def oh:Field:=bn 54 1
theorem IT:oh.type=52:=by kernel_rfl
theorem IS:oh.offset=1:=by kernel_rfl
theorem IQ:(oh.name = "_")=False:=eq_false (by decide +kernel)
noncomputable def om:Field:=bn 54 2
theorem IW:om.type=52:=by kernel_rfl
theorem IV:om.offset=2:=by kernel_rfl
theorem IU:(om.name = "_")=False:=eq_false (by decide +kernel)
theorem UB:ba prog 54=some ⟨.struct #[od,oh,om],3,48,.agg #[.string ⟨#[]⟩,.string ⟨#[]⟩,.string ⟨#[]⟩],true⟩:=by kernel_rfl
noncomputable def oo:Field:=bn 56 0
theorem IZ:oo.type=54:=by kernel_rfl
theorem IY:oo.offset=0:=by kernel_rfl
theorem IX:(oo.name = "_")=False:=eq_false (by decide +kernel)
noncomputable def ot:Field:=bn 56 1
theorem I5:ot.type=52:=by kernel_rfl
theorem I3:ot.offset=3:=by kernel_rfl
theorem I2:(ot.name = "_")=False:=eq_false (by decide +kernel)
theorem UC:ba prog 56=some ⟨.struct #[oo,ot],4,64,.agg #[.string ⟨#[]⟩,.string ⟨#[]⟩,.string ⟨#[]⟩,.string ⟨#[]⟩],true⟩:=by kernel_rfl
noncomputable def ov:Field:=bn 58 0
theorem I8:ov.type=56:=by kernel_rfl
theorem I7:ov.offset=0:=by kernel_rfl
theorem I6:(ov.name = "_")=False:=eq_false (by decide +kernel)
noncomputable def oz:Field:=bn 58 1
theorem Jb:oz.type=54:=by kernel_rfl
theorem Ja:oz.offset=4:=by kernel_rfl
theorem I9:(oz.name = "_")=False:=eq_false (by decide +kernel)
theorem UD:ba prog 58=some ⟨.struct #[ov,oz],7,112,.agg #[.string ⟨#[]⟩,.string ⟨#[]⟩,.string ⟨#[]⟩,.string ⟨#[]⟩,.string ⟨#[]⟩,.string ⟨#[]⟩,.string ⟨#[]⟩],true⟩:=by kernel_rfl
noncomputable def uf:Field:=bn 61 0
theorem Jd:uf.type=54:=by kernel_rfl
theorem Jc:uf.offset=0:=by kernel_rfl
noncomputable def ug:Field:=bn 61 1
theorem Jf:ug.type=59:=by kernel_rfl
theorem Je:ug.offset=3:=by kernel_rfl
noncomputable def uh:Field:=bn 61 2
theorem Jh:uh.type=54:=by kernel_rfl
theorem Jg:uh.offset=4:=by kernel_rfl
theorem UF:ba prog 61=some ⟨.struct #[uf,ug,uh],7,120,.agg #[.string ⟨#[]⟩,.string ⟨#[]⟩,.string ⟨#[]⟩,.slice none 0 0,.string ⟨#[]⟩,.string ⟨#[]⟩,.string ⟨#[]⟩],true⟩:=by kernel_rfl
noncomputable def oC:Field:=bn 63 0
theorem Jk:oC.type=56:=by kernel_rfl
theorem Jj:oC.offset=0:=by kernel_rfl
theorem Ji:(oC.name = "_")=False:=eq_false (by decide +kernel)
noncomputable def oF:Field:=bn 63 1
theorem Jn:oF.type=52:=by kernel_rfl
theorem Jm:oF.offset=4:=by kernel_rfl
theorem Jl:(oF.name = "_")=False:=eq_false (by decide +kernel)
noncomputable def oG:Field:=bn 63 2
theorem Jq:oG.type=9:=by kernel_rfl
theorem Jp:oG.offset=5:=by kernel_rfl
theorem Jo:(oG.name = "_")=False:=eq_false (by decide +kernel)
theorem UG:ba prog 63=some ⟨.struct #[oC,oF,oG],6,96,.agg #[.string ⟨#[]⟩,.string ⟨#[]⟩,.string ⟨#[]⟩,.string ⟨#[]⟩,.string ⟨#[]⟩,.string ⟨#[]⟩],true⟩:=by kernel_rfl
theorem Gh:ba prog 64=some ⟨.array 4 3,4,32,.agg #[.int .i64 0,.int .i64 0,.int .i64 0,.int .i64 0],true⟩:=by kernel_rfl
noncomputable def oH:Field:=bn 66 0
theorem Jt:oH.type=64:=by kernel_rfl
theorem Js:oH.offset=0:=by kernel_rfl
theorem Jr:(oH.name = "_")=False:=eq_false (by decide +kernel)
noncomputable def oI:Field:=bn 66 1
theorem Jw:oI.type=54:=by kernel_rfl
theorem Jv:oI.offset=4:=by kernel_rfl
theorem Ju:(oI.name = "_")=False:=eq_false (by decide +kernel)
theorem UH:ba prog 66=some ⟨.struct #[oH,oI],7,80,.agg #[.int .i64 0,.int .i64 0,.int .i64 0,.int .i64 0,.string ⟨#[]⟩,.string ⟨#[]⟩,.string ⟨#[]⟩],true⟩:=by kernel_rfl
noncomputable def ui:Field:=bn 68 0
theorem Jy:ui.type=3:=by kernel_rfl
theorem Jx:ui.offset=0:=by kernel_rfl
noncomputable def uj:Field:=bn 68 1
theorem JA:uj.type=9:=by kernel_rfl
theorem Jz:uj.offset=1:=by kernel_rfl
noncomputable def uk:Field:=bn 68 2
theorem JC:uk.type=51:=by kernel_rfl
theorem JB:uk.offset=2:=by kernel_rfl
noncomputable def um:Field:=bn 68 3
theorem JE:um.type=58:=by kernel_rfl
theorem JD:um.offset=5:=by kernel_rfl
noncomputable def uo:Field:=bn 68 4
theorem JG:uo.type=61:=by kernel_rfl
theorem JF:uo.offset=12:=by kernel_rfl
noncomputable def uq:Field:=bn 68 5
theorem JI:uq.type=63:=by kernel_rfl
theorem JH:uq.offset=19:=by kernel_rfl
noncomputable def ur:Field:=bn 68 6
theorem JK:ur.type=66:=by kernel_rfl
theorem JJ:ur.offset=25:=by kernel_rfl
theorem UI:ba prog 68=some ⟨.struct #[ui,uj,uk,um,uo,uq,ur],32,504,.agg #[.int .i64 0,.string ⟨#[]⟩,.slice none 0 0,.slice none 0 0,.slice none 0 0,.string ⟨#[]⟩,.string ⟨#[]⟩,.string ⟨#[]⟩,.string ⟨#[]⟩,.string ⟨#[]⟩,.string ⟨#[]⟩,.string ⟨#[]⟩,.string ⟨#[]⟩,.string ⟨#[]⟩,.string ⟨#[]⟩,.slice none 0 0,.string ⟨#[]⟩,.string ⟨#[]⟩,.string ⟨#[]⟩,.string ⟨#[]⟩,.string ⟨#[]⟩,.string ⟨#[]⟩,.string ⟨#[]⟩,.string ⟨#[]⟩,.string ⟨#[]⟩,.int .i64 0,.int .i64 0,.int .i64 0,.int .i64 0,.string ⟨#[]⟩,.string ⟨#[]⟩,.string ⟨#[]⟩],true⟩:=by kernel_rfl
theorem UJ:ba prog 78=some ⟨.array 3 54,9,144,.agg #[.string ⟨#[]⟩,.string ⟨#[]⟩,.string ⟨#[]⟩,.string ⟨#[]⟩,.string ⟨#[]⟩,.string ⟨#[]⟩,.string ⟨#[]⟩,.string ⟨#[]⟩,.string ⟨#[]⟩],true⟩:=by kernel_rfl
noncomputable def uu:Field:=bn 80 0
theorem JM:uu.type=78:=by kernel_rfl
theorem JL:uu.offset=0:=by kernel_rfl
noncomputable def uv:Field:=bn 80 1
theorem JO:uv.type=54:=by kernel_rfl
theorem JN:uv.offset=9:=by kernel_rfl
theorem UK:ba prog 80=some ⟨.struct #[uu,uv],12,192,.agg #[.string ⟨#[]⟩,.string ⟨#[]⟩,.string ⟨#[]⟩,.string ⟨#[]⟩,.string ⟨#[]⟩,.string ⟨#[]⟩,.string ⟨#[]⟩,.string ⟨#[]⟩,.string ⟨#[]⟩,.string ⟨#[]⟩,.string ⟨#[]⟩,.string ⟨#[]⟩],true⟩:=by kernel_rfl
noncomputable def oJ:Field:=bn 91 0
theorem JR:oJ.type=52:=by kernel_rfl
theorem JQ:oJ.offset=0:=by kernel_rfl
theorem JP:(oJ.name = "_")=False:=eq_false (by decide +kernel)
noncomputable def oL:Field:=bn 91 1
theorem JU:oL.type=52:=by kernel_rfl
theorem JT:oL.offset=1:=by kernel_rfl
theorem JS:(oL.name = "_")=False:=eq_false (by decide +kernel)
theorem UL:ba prog 91=some ⟨.struct #[oJ,oL],2,32,.agg #[.string ⟨#[]⟩,.string ⟨#[]⟩],true⟩:=by kernel_rfl
noncomputable def l9:Field:=bn 100 0
theorem FN:l9.type=52:=by kernel_rfl
theorem FM:l9.offset=0:=by kernel_rfl
theorem FL:(l9.name = "_")=False:=eq_false (by decide +kernel)
noncomputable def me:Field:=bn 100 1
theorem FQ:me.type=52:=by kernel_rfl
theorem FP:me.offset=1:=by kernel_rfl
theorem FO:(me.name = "_")=False:=eq_false (by decide +kernel)
theorem RK:ba prog 100=some ⟨.struct #[l9,me],2,32,.agg #[.string ⟨#[]⟩,.string ⟨#[]⟩],true⟩:=by kernel_rfl
theorem Kj:ba prog 102=some ⟨.array 2 3,2,16,.agg #[.int .i64 0,.int .i64 0],true⟩:=by kernel_rfl
theorem RL:ba prog 122=some ⟨.array 3 52,3,48,.agg #[.string ⟨#[]⟩,.string ⟨#[]⟩,.string ⟨#[]⟩],true⟩:=by kernel_rfl
theorem RM:ba prog 133=some ⟨.array 3 52,3,48,.agg #[.string ⟨#[]⟩,.string ⟨#[]⟩,.string ⟨#[]⟩],true⟩:=by kernel_rfl
theorem RN:ba prog 135=some ⟨.array 3 133,9,144,.agg #[.string ⟨#[]⟩,.string ⟨#[]⟩,.string ⟨#[]⟩,.string ⟨#[]⟩,.string ⟨#[]⟩,.string ⟨#[]⟩,.string ⟨#[]⟩,.string ⟨#[]⟩,.string ⟨#[]⟩],true⟩:=by kernel_rfl
theorem RO:ba prog 150=some ⟨.array 3 3,3,24,.agg #[.int .i64 0,.int .i64 0,.int .i64 0],true⟩:=by kernel_rfl
theorem RP:ba prog 151=some ⟨.array 3 3,3,24,.agg #[.int .i64 0,.int .i64 0,.int .i64 0],true⟩:=by kernel_rfl
noncomputable def qN:Field:=bn 208 0
theorem FT:qN.type=4:=by kernel_rfl
theorem FR:qN.offset=0:=by kernel_rfl
noncomputable def qO:Field:=bn 208 1
theorem FV:qO.type=206:=by kernel_rfl
theorem FU:qO.offset=1:=by kernel_rfl
theorem RT:ba prog 208=some ⟨.struct #[qN,qO],2,32,.agg #[.bool false,.slice none 0 0],true⟩:=by kernel_rfl
noncomputable def yE:Field:=bn 253 0
theorem FW:yE.type=250:=by kernel_rfl
noncomputable def qP:Field:=bn 253 1
theorem FY:qP.type=251:=by kernel_rfl
theorem FX:qP.offset=1:=by kernel_rfl
theorem RZ:ba prog 253=some ⟨.struct #[yE,qP],2,32,.agg #[.pointer none,.slice none 0 0],true⟩:=by kernel_rfl
attribute [simp] Ug Ie
attribute [simp] Ic Ig If Ii Ih Uh Ui Ik Ij
attribute [simp] Im Il Uj Uk Ul Um
attribute [simp] Ip Io Ir Iq It Is Iv Iu Ix Iw Un
attribute [simp] Iz Iy IB IA Up Uq
attribute [simp] ID IC IF IE Uu
attribute [simp] IH IG IJ II IL IK Uz
attribute [simp] IP IN IM IT IS IQ IW IV IU UB IZ IY IX
attribute [simp] I5 I3 I2 UC I8 I7 I6 Jb Ja I9 UD
attribute [simp] Jd Jc Jf Je Jh Jg UF
attribute [simp] Jk Jj Ji Jn Jm Jl Jq Jp Jo UG Gh
attribute [simp] Jt Js Jr Jw Jv Ju UH
attribute [simp] Jy Jx JA Jz
attribute [simp] JC JB JE JD JG JF JI JH JK JJ UI UJ
attribute [simp] JM JL JO JN UK JR
attribute [simp] JQ JP JU JT JS UL FN FM FL FQ FP FO RK
attribute [simp] Kj RL RM RN RO RP FT FR FV FU
attribute [simp] RT FW FY FX RZ
noncomputable def bF(f:FuncId)(args:List AV):Option AV:=
 match f,args with
 |205,[.str s,.int .i64 b,.int .i64 w]=>if s≠[]∧s.all isD=true∧s.length≤18∧b=10∧w=64 then some (.tuple [.int .u64 (ej s:Nat),.nilIface]) else none
 |209,[.int .u64 u,.int .i64 b]=>if 0≤u∧u≤18446744073709551615∧b=10 then some (.str (ai u.toNat)) else none
 |f,args=>ak f args
theorem Bm:qS prog (af bF):=bH fun f V v h mem=>by
 unfold bF at h;split at h
 ·split at h
  ·rename_i X
   obtain⟨Z,U,h3,rfl,rfl⟩:=X;cases h;exact AZ _ Z U h3 mem
  ·cases h
 ·split at h
  ·rename_i X
   obtain⟨Z,U,rfl⟩:=X;cases h;have S:=(Int.toNat_lt Z).2 (show _<((18446744073709551616:Nat):Int) by omega);have:=zr _ S mem;rw[Int.toNat_of_nonneg Z] at this;exact this
  ·cases h
 ·have:=dO.fn _ _ mem ⟨v,none,[]⟩ (by unfold af;simp only;rw[h])
  simpa [y9.mem] using this
noncomputable def bM:ae3:=fun c Z M=>((af bF).or cb) c Z M
theorem qt:qS prog bM:=Bm.or H3
def uP:List Nat→Mem
 | []=>[.cells true 0 [.bool false,.qF],.cells true 1 []]
 |x::l=>[.cells true 0 [.bool false,.qF],.qK,.cells true 1 (iN .u64 (x::l))]
def rN:List Nat→AV
 | []=>.slice 1 0 0 none
 |x::l=>.slice 2 0 (l.length+1) none
theorem DL{K:Nat}(y:List UInt8)(hd:y.all isD=true)(hs:y.length≤1000000)(I:y.length<K){b:Code}(H:ah f140=[b]):
  ∃F:Env→Bool→Env,∀Z d,(ab Z 3=.str y∧ab Z 5=.slice 1 0 0 none)→
   bh (ba prog) (fun _=>[3,5]) bM K 44 0 true (.loop b) ⟨Z,uP [],d⟩=some (.exit 0,⟨F Z d,uP (ij y),d⟩)∧
   (ab (F Z d) 5=rN (ij y)∧ab (F Z d) 2=ab Z 2∧ab (F Z d) 4=ab Z 4):=by
 refine bj rfl (fun Z=>ab Z 3=.str y∧ab Z 5=.slice 1 0 0 none) (fun Z N =>ab N 5=rN (ij y)∧ab N 2=ab Z 2∧ab N 4=ab Z 4) ?_;rintro Z d ⟨h3,h5⟩;simp[ah,aE,f140] at H;have X:ay [3,5] (ad b) Z ((3,.str y)::(5,rN [])::Z)=ay [3,5] (ad b) Z Z:=by simp[ay,h3,h5,rN]
 rw[←X];refine bx (α:=List UInt8×List Nat) (fun a=>⟨ay [3,5] (ad b) Z ((3,.str a.1)::(5,rN a.2)::Z),uP a.2,d⟩) (fun a=>a.1.length)
  (fun a=>a.1.all isD=true∧a.1.length≤y.length∧a.2++ij a.1=ij y) (.exit 0) _ d _ (by simp) ?_ K (y,[]) ⟨hd,Nat.le_refl _,rfl⟩ I
 rintro ⟨s,done⟩ ⟨PP,Ya,H1⟩;simp only at PP Ya H1;clear X;subst H;by_cases hs0:s=[]
 ·right
  subst hs0;rw[QI,List.append_nil] at H1;rw[←H1];simp
 ·left
  have L:0<s.length:=List.length_pos_iff.2 hs0;rw[xP hs0] at H1;have Y:done.length≤1000000:=by have G:=(kV _ y (Nat.le_refl _) hd).2.2;rw[←H1] at G;simp at G;omega
  obtain⟨k,D⟩:=xE (s.length-9);rw[←D] at H1;obtain⟨n,X⟩:=xE (ej (s.drop k));have u:n<1000000000:=by rw[X,D];exact OG PP
  rw[←X] at H1;have w1:IntKind.i64.wrap ((s.length:Int)-9)=(s.length:Int)-9:=ae;have Q:(if (s.length:Int)-9<0 then (0:Int) else (s.length:Int)-9)=(k:Int):=by split<;>omega
  have o:k≤s.length:=by omega
  have M:(s.drop k).take (s.length-k)=s.drop k:=List.take_of_length_le (by simp);have V:s.drop k≠[]:=by intro e;have:=congrArg List.length e;simp at this;omega
  have U:=Au PP k;have S:(s.drop k).length≤18:=by simp;omega
  have O:(k:Int)≤(s.length:Int):=by omega
  have C:(done.length+1)*8≤140737488355328:=by omega
  have B:done.length+1≤140737488355328:=by omega
  obtain⟨W,R⟩:=xE (s.drop k);rw[←R] at M V U S X;refine⟨(s.take k,done++[n]),?_⟩;refine bt (r:=_∧_) (show((s.take k).all isD=true∧(s.take k).length≤y.length∧(done++[n])++ij (s.take k)=ij y)∧(s.take k).length<s.length by refine⟨⟨o8 PP k,by simp;omega,?_⟩,by simp;omega⟩;rw[←H1];simp) ?_
  clear H1;have m:0<(s.length:Int):=by omega
  cases done with
  |nil=>
   simp[uP,rN,bM,ae3.or,af,bF,L,w1,Q,O,←R,M,V,U,S,←X,ca,Nat.testBit]
  |cons x l=>
   have j:(iN .u64 l).take l.length=iN .u64 l:=List.take_of_length_le (by simp);simp only[List.length_cons] at C B;simp[uP,rN,bM,ae3.or,af,bF,L,w1,Q,O,←R,M,V,U,S,←X,j,C,B,ca,dh,Nat.testBit]
section
variable (z:Int)(hl:(ai z.natAbs).length≤1000000)
include z hl
theorem F9:aa (ba prog) (fun _=>[3,5]) (aT prog) bM ((ai z.natAbs).length+1) 140 [.str (bB z)] []=
  some ⟨.agg [.bool (decide (z<0)),.slice 0 0 (aU (ij (ai z.natAbs))).length none],none,[.cells true 1 (iN .u64 (ij (ai z.natAbs)))]⟩:=by
 have D:aT prog 140=some f140:=by kernel_rfl
 obtain⟨b,U⟩:∃b,ah f140=[b]:=⟨_,rfl⟩
 obtain⟨F,X⟩:=DL (K:=(ai z.natAbs).length+1) (ai z.natAbs) (dn _) hl (by omega) U;simp[ah,aE,f140] at U;subst U;obtain⟨C,B,O⟩:=kV _ (ai z.natAbs) (Nat.le_refl _) (dn _);have S:ij (ai z.natAbs)≠[]:=by rw[xP (ja _)];simp
 obtain⟨Z,R⟩:=xE (ij (ai z.natAbs));rw[←R] at X C B O S ⊢;have u:uP Z=[.cells true 0 [.bool false,.qF],.qK,.cells true 1 (iN .u64 Z)]:=by cases Z<;>first | exact absurd rfl S | rfl
 have o:rN Z=.slice 2 0 Z.length none:=by cases Z<;>first | exact absurd rfl S | rfl
 rw[u,o] at X;simp only[uP] at X;obtain⟨L,N⟩:=xE ((ai z.natAbs).length);obtain⟨c,m⟩:=xE (α:=Nat) (L / 9+1);obtain⟨Q,V⟩:=xE (α:=Nat) (L / 9);rw[←N] at X hl O ⊢;have w1:IntKind.i64.wrap ((L:Int) / 9)=(Q:Int):=by rw[ae];omega
 have j :IntKind.i64.wrap ((L:Int).tdiv 9)=(Q:Int):=by rw[G4 L 9,←V];exact ae
 have w2:IntKind.i64.wrap ((Q:Int)+1)=(c:Int):=by rw[ae];omega
 have Y:8*(c:Int)≤281474976710656:=by omega
 have W:(c:Int)≤281474976710656:=by omega
 have hs2:∀M G l,aW .u64 (M::G::.cells true 1 (iN .u64 Z)::l) (.slice 2 0 Z.length none)=some Z:=fun M G l=>aR rfl (by simp) (List.take_of_length_le (by simp))
 have J:Z.length≤1000000000:=by omega
 clear m V;simp[aa,D,f140,bM,cb,cf,bV,bE,ae3.or,af,bF,ak,aD,aL,←N,w1,w2,Y,W,X,hs2,J,bW,aH]
theorem Mt(M:Mem):kO prog 140 [.str (bB z)] M (.agg [.bool (decide (z<0)),.slice M.length 0 (dig 1000000000 z.natAbs).length none]) (M++[.cells true 1 (iN .u64 (dig 1000000000 z.natAbs))]):=by
 obtain⟨S,X,R⟩:=kV _ (ai z.natAbs) (Nat.le_refl _) (dn _);rw[du] at X;have V:aU (ij (ai z.natAbs))=dig 1000000000 z.natAbs:=by rw[←dC (by omega) S,X]
 have h:=(ar aj (aI _) qt (aP _) (F9 z hl)).1;simp only[y9.mem,Option.getD_none,List.nil_append] at h;have U:=kO.af5 (m2:=[.cells true 1 (iN .u64 (dig 1000000000 z.natAbs))]) h rfl (fun b s Z=>by
  match b with
  |0=>simp at Z;subst Z;exact⟨_,rfl,.row (by rw[←V];exact di _)⟩
  |b+1=>simp at Z)
 rw[V] at U;have h3:=kO.frame (M:=M) [] (m:=[]) (new:=[.cells true 1 (iN .u64 (dig 1000000000 z.natAbs))]) rfl (by simp) rfl (by simp) rfl U;simpa [AV.ren,AV.afp,eL] using h3
end
end Go.Proofs
namespace Go.Proofs
open Go.Eng Go.Shelf Go.RowKit Go.Sort
open Tryz
theorem Lh{P:Program}{e:TypeId}{n s d:Nat}(hd:P.depth=d+1)(hs:P.cellsOf e=s+1)(y:sameLayout P P.depth e e=true)(H:1≤n):liesAt P P.depth e n 0 e 1=true:=by rw[hd] at y;simp[hd,liesAt,rowAt,hs,y,H]
theorem zC(n:Nat)(y:1≤n):liesAt prog prog.depth 253 n 0 253 1=true:=
 Lh (s:=1) (d:=prog.depth-1) (by kernel_rfl) (by kernel_rfl) (by kernel_rfl) y
theorem xh:prog.cellsOf 253=2:=by kernel_rfl
theorem pR:(prog.info? 253).map (·.size)=some 2:=by kernel_rfl
theorem tJ(b:Nat)(w:World)(h0:w.cell? ⟨b,0,none⟩=some (.pointer (some ⟨b,0,none⟩))):
  Calls prog 244 #[.pointer (some ⟨b,0,none⟩)] w fun e w' =>e=.returned (.tuple #[])∧w' =w:=by
 obtain⟨j,Z,_⟩:=Option.map_eq_some_iff.1 pR
 go_enter func244,ntmps244
 go_wp2
 rw[Lib.run_neq_ptr_same w _ (tp:=250) (te:=253) (by kernel_rfl) Z]
 go_wp2
 go_end0
 exact⟨rfl,rfl⟩
theorem sV(b:Nat)(w:World)(h0:w.cell? ⟨b,0,none⟩=some (.pointer none))(n:Nat)(H:2≤n)(y:w.shape? b=some (253,n))(I:w.frozen? ⟨b,0,none⟩=false):
  Calls prog 244 #[.pointer (some ⟨b,0,none⟩)] w fun e w' =>e=.returned (.tuple #[])∧w' =w.setCell ⟨b,0,none⟩ (.pointer (some ⟨b,0,none⟩)):=by
 obtain⟨j,X,Z⟩:=Option.map_eq_some_iff.1 pR;have V:prog.underlying 250=some (.pointer 253):=by kernel_rfl
 have U:prog.underlying 318=some .unsafePointer:=by kernel_rfl
 go_enter func244,ntmps244
 go_wp2
 rw[Lib.run_to_unsafe w ⟨b,0,none⟩ V U X (by rw[Z];decide) y (Nat.lt_of_lt_of_le (Nat.zero_lt_succ 1) H)];simp only[Result.andThen];rw[Oper.upon_value]
 go_wp2
 rw[run_callFunc_extern func274 (by kernel_rfl) (by kernel_rfl) (by kernel_rfl) (e:=Extern.AbiNoEscape.same) (by kernel_rfl)];rw[Lib.run_noEscape];simp only[Result.andThen];rw[Oper.upon_value]
 go_wp2
 rw[Lib.run_from_unsafe w ⟨b,0,none⟩ U V X y (zC _ (by rw[xh];omega))];simp only[Result.andThen];rw[Oper.upon_value]
 go_wp2
 go_end0
 exact⟨rfl,rfl⟩
abbrev aN:Nat:=1000*(253+1)
theorem sU(mem:Mem)(b:Nat)(y:AV)(H:mem[b]? =some (.cells true aN [.ptr b 0,y])):
  kO prog 244 [.ptr b 0] mem (.tuple []) mem:=by
 refine⟨gJ _ func244 (by kernel_rfl) (by kernel_rfl),fun base μ w Vs hG hH hV=>?_⟩;obtain⟨X,_,rfl,hV,rfl⟩:=hV;simp only[ae5] at hV;have S:=hH.slot b _ H;simp only[afl] at S;obtain⟨Q,el,L,O,K,g3,N,M⟩:=S;obtain⟨R,G,F,D⟩:=M trivial;obtain⟨V,Z,U⟩:=N 0 _ rfl;simp only[ae5] at U;obtain⟨C,rfl⟩:=hV;rw[R] at U Z;rw[R];obtain⟨_,rfl⟩:=U;refine(tJ (μ b).blk w (by simp only[World.cell?,O];exact Z)).mono ?_;rintro e w' ⟨rfl,rfl⟩;exact⟨_,_,_,μ,rfl,by simp[ae5,ae7],hH,.refl (Nat.le_refl _),rfl,rfl⟩
theorem ql(mem:Mem)(b:Nat)(H:AV)(y:mem[b]? =some (.cells true aN [.afk,H])):
  kO prog 244 [.ptr b 0] mem (.tuple []) (mem.set b (.cells true aN [.ptr b 0,H])):=by
 refine⟨gJ _ func244 (by kernel_rfl) (by kernel_rfl),fun base μ w Vs hG hH hV=>?_⟩;obtain⟨X,_,rfl,hV,rfl⟩:=hV;simp only[ae5] at hV;have L:=hH.slot b _ y;simp only[afl] at L;obtain⟨Z,el,I,O,K,g3,G,D⟩:=L;obtain⟨S,rfl,C,B⟩:=D trivial;obtain⟨V,R,F⟩:=G 0 _ rfl;obtain⟨u,Q,o⟩:=G 1 _ rfl;simp only[ae5] at F;obtain⟨m,rfl⟩:=hV;rw[S] at R Q;rw[S];subst F;have N:el=253:=by have:=K.2 (by decide);exact Nat.succ.inj this
 subst N;have M:w.cell? ⟨(μ b).blk,0,none⟩=some (.pointer none):=by simp only[World.cell?,O];exact R
 have Yw:Z.size=2∨2<Z.size:=by simp only[List.length_cons,List.length_nil] at g3;omega
 refine(sV (μ b).blk w M Z.size (by omega) (by simp only[World.shape?,O]) (by simp[World.frozen?,O])).mono ?_;rintro e w' ⟨rfl,rfl⟩;obtain⟨Y,W⟩:=hH.write (w' :=w.setCell ⟨(μ b).blk,0,none⟩ (.pointer (some ⟨(μ b).blk,0,none⟩))) (s' :=.cells true aN [.ptr b 0,H]) y (jC y) (fun _=>⟨_,List.getElem?_set_self (gL y),rfl⟩) rfl rfl rfl rfl (by simp[World.setCell]) (fun k J=>by simp[World.setCell,Array.getElem?_modify,Ne.symm J]) (by
  simp only[afl];refine⟨Z.setIfInBounds 0 (.pointer (some ⟨(μ b).blk,0,none⟩)),253,(0,0),by simp[World.setCell,Array.getElem?_modify,O],K,g3,fun j v U=>?_,fun _=>⟨S,rfl,by simpa using C,B⟩⟩
  match j,U with
  |0,U=>
   simp at U;subst U;refine⟨.pointer (some ⟨(μ b).blk,0,none⟩),?_,by simp[ae5,m,S]⟩;rw[S];have:0<Z.size:=by omega
   simp[this]
  |1,U=>
   simp at U;subst U;refine⟨u,?_,o⟩;rw[S];simpa using Q
  |j+2,U=>simp at U)
 exact⟨_,_,_,μ,rfl,by simp[ae5,ae7],Y,W,rfl,rfl⟩
end Go.Proofs
namespace Go.Proofs
open Go.Eng
open Tryz
def iB(s:List UInt8):List AV:=s.map fun c=>.int .u8 (c.toNat:Int)
@[simp] theorem W2 (s:List UInt8):(iB s).length=s.length:=by simp[iB]
theorem SD(s t:List UInt8):iB (s++t)=iB s++iB t:=by simp[iB]
@[simp] theorem XQ:iB []=[]:=rfl
@[simp] theorem XC (m:Nat) (s:List UInt8):AV.afm m (iB s)=[]:=by
 induction s with
 |nil=>rfl
 |cons c s ih=>simpa [iB,AV.afm,AV.refs] using ih
@[simp] theorem XR (ρ:Nat→Option Nat) (s:List UInt8):AV.afp ρ (iB s)=iB s:=by
 induction s with
 |nil=>rfl
 |cons c s ih=>simpa [iB,AV.afp,AV.ren] using ih
@[simp] theorem XP (s:List UInt8) (p:AV→Prop):(∀x,x∈iB s→p x)↔∀c,c∈s→p (.int .u8 (c.toNat:Int)):=by simp[iB]
theorem jU(s:List UInt8):iO (iB s)=some s:=by
 induction s with
 |nil=>rfl
 |cons c s ih=>
  have Z:(0:Int)≤(c.toNat:Int)∧(c.toNat:Int)<256:=by have:=c.toNat_lt;omega
  show iO (.int .u8 (c.toNat:Int)::iB s)=_
  rw[iO,if_pos Z,ih];simp
noncomputable def fT:ae3:=fun c Z M=>match c,Z with
 |.fn 244,[.ptr b 0]=>match M[b]? with
  |some (.cells true es [.afk,sl])=>if es=aN then some ⟨.tuple [],some (M.set b (.cells true aN [.ptr b 0,sl])),[]⟩ else none
  |some (.cells true es [.ptr b' 0,_])=>if es=aN∧b' =b then some ⟨.tuple [],none,[]⟩ else none
  |_=>none
 |_,_=>none
theorem n8:qS prog fT where
 fn f args mem r h:=by
  unfold fT at h;split at h
  ·rename_i V
   cases V;split at h
   ·rename_i b _ es X hb
    split at h
    ·rename_i Z
     cases h;subst Z;simpa [y9.mem] using ql mem b X hb
    ·cases h
   ·rename_i b _ es b' X hb
    split at h
    ·rename_i Z
     cases h;obtain⟨rfl,rfl⟩:=Z;simpa [y9.mem] using sU mem _ _ hb
    ·cases h
   ·cases h
  ·cases h
 yld b args mem r h:=by unfold fT at h;split at h<;>simp_all
 pre c args mem r p h hp:=by
  unfold fT at h;split at h
  ·split at h
   ·split at h
    ·cases h;cases hp;simp
    ·cases h
   ·split at h
    ·cases h;cases hp
    ·cases h
   ·cases h
  ·cases h
theorem VM(s:List UInt8):(s.map fun c=>AV.int .u8 (c.toNat:Int))=iB s:=rfl
theorem BJ(M:Mem)(b:Nat)(s:List UInt8)(H:M[b]? =some (.cells true aN [.afk,.qF]))(hs:s≠[])(I:s.length≤100000000):
  dI (ba prog) (fun _=>[]) (aT prog) fT 1 210 [.ptr b 0,.str s] M=some (.tuple [.int .i64 (s.length:Int),.nilIface],M.set b (.cells true aN [.ptr b 0,.slice M.length 0 s.length none])++[.cells true 6001 (iB s)]):=by
 have S:aT prog 210=some f210:=by kernel_rfl
 have Z:b<M.length:=gL H;have R:s.length≤140737488355328:=by omega
 have U:∀x,(M.set b x)[b]? =some x:=fun x=>List.getElem?_set_self Z
 have X:∀x l,(M.set b x++l)[b]? =some x:=fun x l=>by rw[List.getElem?_append_left (by simpa using Z),U]
 have V:∀x y l,(M.set b x++l).set b y=M.set b y++l:=fun x y l=>by rw[List.set_append_left _ _ (by simpa using Z),List.set_set]
 clear Z;simp[dI,S,f210,fT,H,hs,R,U,X,V,VM]
theorem uy(M:Mem)(b:Nat)(c:UInt8)(H:M[b]? =some (.cells true aN [.afk,.qF])):
  dI (ba prog) (fun _=>[]) (aT prog) fT 1 207 [.ptr b 0,.int .u8 (c.toNat:Int)] M=some (.nilIface,M.set b (.cells true aN [.ptr b 0,.slice (M.length+1) 0 1 none])++[.cells true 1 (iB [c]),.cells true 6001 (iB [c])]):=by
 have S:aT prog 207=some f207:=by kernel_rfl
 have Z:b<M.length:=gL H;have U:∀x,(M.set b x)[b]? =some x:=fun x=>List.getElem?_set_self Z
 have X:∀x l,(M.set b x++l)[b]? =some x:=fun x l=>by rw[List.getElem?_append_left (by simpa using Z),U]
 have V:∀x y l,(M.set b x++l).set b y=M.set b y++l:=fun x y l=>by rw[List.set_append_left _ _ (by simpa using Z),List.set_set]
 clear Z;simp[dI,S,f207,fT,H,U,X,V,iB]
theorem BK(M:Mem)(b k:Nat)(t s:List UInt8)(H:M[b]? =some (.cells true aN [.ptr b 0,.slice k 0 t.length none]))(hk:M[k]? =some (.cells true 6001 (iB t)))(I:k≠b)(J:t.length+s.length≤100000000):
  dI (ba prog) (fun _=>[]) (aT prog) fT 1 210 [.ptr b 0,.str s] M=some (.tuple [.int .i64 (s.length:Int),.nilIface],(M.set k .qK).set b (.cells true aN [.ptr b 0,.slice M.length 0 (t.length+s.length) none])++[.cells true 6001 (iB (t++s))]):=by
 have U:aT prog 210=some f210:=by kernel_rfl
 have Z:b<M.length:=gL H;have S:t.length+s.length≤140737488355328:=by omega
 have R:∀x,(M.set k x)[b]? =some (.cells true aN [.ptr b 0,.slice k 0 t.length none]):=fun x=>by rw[List.getElem?_set_ne I,H]
 have X:∀x l,(M.set k x++l)[b]? =some (.cells true aN [.ptr b 0,.slice k 0 t.length none]):=fun x l=>by rw[List.getElem?_append_left (by simpa using Z),R]
 have V:∀x y l,(M.set k x++l).set b y=(M.set k x).set b y++l:=fun x y l=>by rw[List.set_append_left _ _ (by simpa using Z)]
 have Q:(iB t).take t.length=iB t:=List.take_of_length_le (by simp);clear Z;simp[dI,U,f210,fT,H,hk,S,X,V,VM,Q,SD]
theorem zO(y s1 H I:afb)(t:List UInt8)(J:t≠[])(W:t.length≤100000000):
  dI (ba prog) (fun _=>[]) (aT prog) cN 1 211 [.ptr 2 0] [y,s1,.cells true aN [.ptr 2 0,.slice 5 0 t.length none],H,I,.cells true 6001 (iB t)]=some (.str t,[y,s1,.cells true aN [.ptr 2 0,.slice 5 0 t.length none],H,I,.qK]):=by
 have Z:aT prog 211=some f211:=by kernel_rfl
 have X:(iB t).take t.length=iB t:=List.take_of_length_le (by simp);have V:(t.length:Int)≤9223372036854775807:=by omega
 have U:0<t.length:=List.length_pos_iff.2 J;simp[dI,Z,f211,V,U,X,jU,Nat.testBit]
theorem zP(y s1 H I J W:afb)(t:List UInt8)(Y:t≠[])(hl:t.length≤100000000):
  dI (ba prog) (fun _=>[]) (aT prog) cN 1 211 [.ptr 2 0] [y,s1,.cells true aN [.ptr 2 0,.slice 7 0 t.length none],H,I,J,W,.cells true 6001 (iB t)]=some (.str t,[y,s1,.cells true aN [.ptr 2 0,.slice 7 0 t.length none],H,I,J,W,.qK]):=by
 have Z:aT prog 211=some f211:=by kernel_rfl
 have X:(iB t).take t.length=iB t:=List.take_of_length_le (by simp);have V:(t.length:Int)≤9223372036854775807:=by omega
 have U:0<t.length:=List.length_pos_iff.2 Y;simp[dI,Z,f211,V,U,X,jU,Nat.testBit]
theorem v7:∀{cs:List AV} {t:List UInt8},iO cs=some t→cs=iB t
 | [],t,h=>by cases h;rfl
 |v::l,t,h=>by
  cases v<;>try (unfold iO at h;cases h;done)
  rename_i k n;cases k<;>try (unfold iO at h;cases h;done)
  unfold iO at h;split at h
  ·rename_i X
   split at h
   ·rename_i r Z
    cases h;have:=v7 Z;rw[this];have e:n=max n 0%256:=by omega
    simp only[iB,List.map_cons,List.cons.injEq,AV.int.injEq,true_and,and_true,UInt8.toNat_ofNat'];omega
   ·cases h
  ·cases h
noncomputable def fO:ae3:=fun c Z M=>match c,Z with
 |.fn 207,[.ptr b 0,.int .u8 n]=>match M[b]? with
  |some (.cells true es [.afk,.qF])=>if es=aN∧n=45 then some ⟨.nilIface,some (M.set b (.cells true aN [.ptr b 0,.slice (M.length+1) 0 1 none])),[.cells true 1 (iB [45]),.cells true 6001 (iB [45])]⟩ else none
  |_=>none
 |.fn 210,[.ptr b 0,.str s]=>match M[b]? with
  |some (.cells true es [.afk,.qF])=>if es=aN∧s≠[]∧s.length≤100000000 then some ⟨.tuple [.int .i64 (s.length:Int),.nilIface],some (M.set b (.cells true aN [.ptr b 0,.slice M.length 0 s.length none])),[.cells true 6001 (iB s)]⟩ else none
  |some (.cells true es [.ptr b' 0,.slice k 0 n none])=>match M[k]? with
   |some (.cells true es2 cs)=>match iO cs with
    |some t=>if es=aN∧b' =b∧es2=6001∧n=t.length∧k≠b∧t.length+s.length≤100000000 then
      some ⟨.tuple [.int .i64 (s.length:Int),.nilIface],some ((M.set k .qK).set b (.cells true aN [.ptr b 0,.slice M.length 0 (t.length+s.length) none])),[.cells true 6001 (iB (t++s))]⟩ else none
    |none=>none
   |_=>none
  |_=>none
 |.fn 211,[.ptr 2 0]=>match M with
  | [s0,s1,.cells true es [.ptr 2 0,.slice 5 0 n none],s3,s4,.cells true es2 cs]=>match iO cs with
   |some t=>if es=aN∧es2=6001∧n=t.length∧t≠[]∧t.length≤100000000 then
     some ⟨.str t,some [s0,s1,.cells true aN [.ptr 2 0,.slice 5 0 t.length none],s3,s4,.qK],[]⟩ else none
   |none=>none
  | [s0,s1,.cells true es [.ptr 2 0,.slice 7 0 n none],s3,s4,s5,s6,.cells true es2 cs]=>match iO cs with
   |some t=>if es=aN∧es2=6001∧n=t.length∧t≠[]∧t.length≤100000000 then
     some ⟨.str t,some [s0,s1,.cells true aN [.ptr 2 0,.slice 7 0 t.length none],s3,s4,s5,s6,.qK],[]⟩ else none
   |none=>none
  |_=>none
 |_,_=>none
theorem yC:qS prog fO where
 fn f args mem r h:=by
  unfold fO at h;split at h
  ·rename_i V
   cases V;split at h
   ·rename_i hb
    split at h
    ·rename_i Z
     cases h;obtain⟨rfl,rfl⟩:=Z;exact cV aj (aI _) n8 (aP _) (uy mem _ 45 hb)
    ·cases h
   ·cases h
  ·rename_i V
   cases V;split at h
   ·rename_i hb
    split at h
    ·rename_i Z
     cases h;obtain⟨rfl,X,h3⟩:=Z;exact cV aj (aI _) n8 (aP _) (BJ mem _ _ hb X h3)
    ·cases h
   ·rename_i hb
    split at h
    ·rename_i S
     split at h
     ·rename_i U
      split at h
      ·rename_i Z
       cases h;obtain⟨rfl,rfl,rfl,rfl,X,h3⟩:=Z;have:=v7 U;subst this;exact cV aj (aI _) n8 (aP _) (BK mem _ _ _ _ hb S X h3)
      ·cases h
     ·cases h
    ·cases h
   ·cases h
  ·rename_i V
   cases V;split at h
   ·split at h
    ·rename_i U
     split at h
     ·rename_i Z
      cases h;obtain⟨rfl,rfl,rfl,X,h3⟩:=Z;have:=v7 U;subst this;simpa [y9.mem] using cV aj (aI _) (ax _) (aP _) (zO _ _ _ _ _ X h3)
     ·cases h
    ·cases h
   ·split at h
    ·rename_i U
     split at h
     ·rename_i Z
      cases h;obtain⟨rfl,rfl,rfl,X,h3⟩:=Z;have:=v7 U;subst this;simpa [y9.mem] using cV aj (aI _) (ax _) (aP _) (zP _ _ _ _ _ _ _ X h3)
     ·cases h
    ·cases h
   ·cases h
  ·cases h
 yld b args mem r h:=by unfold fO at h;split at h<;>simp_all
 pre c args mem r p h hp:=by
  unfold fO at h
  repeat' split at h
  all_goals first
   |(cases h;done)
   |(cases h;cases hp;simp;done)
theorem Sc{T:TypeId→Option TyI}{lv:Code→List Nat}{G:FuncId→Option Func}{O:ae3}{K:Nat}{f:FuncId}{args:List AV}{mem y :Mem}{fn:Func}{c:Code}{v:AV}{e:Exit}{H :Env}{ks:List Nat}(hf:G f=some fn)(Y:fn.body=some c)(hl:args.length≤fn.ntmps)(he:e=.normal∨e=.ret)(h:bh T lv O K fn.ntmps mem.length true c ⟨dv 0 args,mem,false⟩=some (e,⟨H,y,true⟩))(I:jg T fn.results.toList H y =some v)(J:qf mem.length y 1000 (v.refs mem.length++(y.take mem.length).flatMap (afb.refs mem.length)) []=ks)(W:Ed mem.length y.length ks=true):
  aa T lv G O K f args mem=some ⟨v.ren (rho mem.length ks),some ((y.take mem.length).map (afb.ren (rho mem.length ks))),af0 mem.length ks y⟩:=by
 unfold aa;simp only[hf,Y];rw[if_pos hl,h];rcases he with rfl | rfl
 ·simp only[I,if_true]
  rw[J,if_pos W]
 ·simp only[I,if_true]
  rw[J,if_pos W]
theorem sZ{n:Nat}{A:List Nat}(hA:A.length=n)(hn:0<n)(hl:n≤1000000000)(H Y y m0 eb:Nat)(ob oA:Bool)(M:Nat→Mem)(I:(M n).length=m0)(D':∀j,j<n→(M (j+1)).length≤(M j).length∧m0<(M j).length)(hs:∀j,j≤n→(M j)[H]? =some (.cells ob eb [.slice Y 0 n none]))(hr:∀j,j≤n→(M j)[Y]? =some (.cells oA 1 (iN .u64 A)))(J:∀j,j<n→((M j).take m0).all (fun s=>(s.refs m0).isEmpty)=false)(hy:∀j,j<n→fN prog y [.int .i64 (j:Int),.int .u64 ((A.getD j 0:Nat):Int)] (M (j+1)) (.bool true) (M j))(ks:List Nat)(Y3:qf m0 (M 0) 1000 (((M 0).take m0).flatMap (afb.refs m0)) []=ks)(W:Ed m0 (M 0).length ks=true):
  kO prog 245 [.yield y,.ptr H 0] (M n) (.tuple []) (((M 0).take m0).map (afb.ren (rho m0 ks))++af0 m0 ks (M 0)):=by
 have m:aT prog 245=some f245:=by kernel_rfl
 obtain⟨O,hO,U⟩:=jf (P:=prog) (fun j:Nat=>j<n) (fun _=>.yld y) (fun j=>[.int .i64 (j:Int),.int .u64 ((A.getD j 0:Nat):Int)]) (fun j=>M (j+1)) (fun j=>⟨.bool true,some ((M j).take (M (j+1)).length),(M j).drop (M (j+1)).length⟩)
  (fun j D=>⟨by simpa [y9.mem] using hy j D,fun q hq=>by cases hq;rw[List.length_take];have:=(D' j D).1;omega⟩)
  (fun i j _ _ _ h _=>by
   simp only[List.cons.injEq,AV.int.injEq] at h;have:i=j:=by omega
   rw[this])
 obtain⟨b,V⟩:∃b,ah f245=[b]:=⟨_,rfl⟩
 have loop:∃F:Env→Env,∀Z,(ab Z 0=.yield y∧ab Z 1=.ptr H 0∧ab Z 3=.int .i64 ((n:Int)-1))→
   bh (ba prog) (fun _=>[3]) O (n+1) 19 m0 true (.loop b) ⟨Z,M n,false⟩=some (.exit 0,⟨F Z,M 0,true⟩)∧True:=by
  refine uI rfl false true (fun Z=>ab Z 0=.yield y∧ab Z 1=.ptr H 0∧ab Z 3=.int .i64 ((n:Int)-1)) (fun _ _=>True) ?_;rintro Z ⟨h0,S,h3⟩;simp[ah,aE,f245] at V;have C:ay [3] (ad b) Z ((3,.int .i64 ((n:Int)-1))::Z)=ay [3] (ad b) Z Z:=by simp[ay,h3]
  rw[←C];have B:(⟨ay [3] (ad b) Z ((3,.int .i64 ((n:Int)-1))::Z),M n,false⟩:XS)=⟨ay [3] (ad b) Z ((3,.int .i64 ((n:Int)-1))::Z),M n,decide (n<n)⟩:=by simp
  rw[B];refine bx (α:=Nat) (fun k=>⟨ay [3] (ad b) Z ((3,.int .i64 ((k:Int)-1))::Z),M k,decide (k<n)⟩) id (fun k=>k≤n) (.exit 0) (M 0) true (fun _=>True) (by simp) ?_ (n+1) n (Nat.le_refl _) (by simp);intro k hk;clear C B;subst V;cases k with
  |zero=>
   right;simp[hn]
  |succ k=>
   left;have X:k<n:=by omega
   have e1:(((k+1:Nat):Int)-1)=(k:Int):=by omega
   have w1:IntKind.i64.wrap ((k:Int)-1)=(k:Int)-1:=ae;have l1:¬(M k).length≤m0:=by have:=(D' k X).2;omega
   have R:=hs (k+1) (by omega);have r1:=hr (k+1) (by omega);have u:=U k X;have Q:=J k X;obtain⟨x,hx,X9⟩:=cM (l:=A) (i:=k) (by omega);have hg:A.getD k 0=x:=by simp[List.getD,hx]
   rw[hg] at u;rw[e1];refine⟨k,?_⟩;have adN :(k:Int)<(n:Int):=by omega
   simp[h0,S,w1,l1,I,R,r1,X9,hA,X,u,-List.all_eq_false];refine⟨fun h=>?_,by omega⟩;exfalso;have:((List.take m0 (M k)).all fun s=>(afb.refs m0 s).isEmpty)=true:=List.all_eq_true.2 fun s hs=>by
    have S:=h s hs;have N:afb.refs m0 s=[]:=by cases s<;>exact S
    rw[N];rfl
   rw[Q] at this;cases this
 obtain⟨F,hF⟩:=loop;simp[ah,aE,f245] at V;subst V;have w1:IntKind.i64.wrap ((n:Int)-1)=(n:Int)-1:=ae;have R:=hs n (by omega);have L:∃o,bh (ba prog) (fun _=>[3]) O (n+1) f245.ntmps (M n).length true (f245.body.getD .skip) ⟨dv 0 [.yield y,.ptr H 0],M n,false⟩=some (.normal,⟨o,M 0,true⟩):=by simp[f245,R,w1,I,hF]
 obtain⟨o,L⟩:=L;have K:aa (ba prog) (fun _=>[3]) (aT prog) O (n+1) 245 [.yield y,.ptr H 0] (M n)=some ⟨.tuple [],some (((M 0).take m0).map (afb.ren (rho m0 ks))),af0 m0 ks (M 0)⟩:=by have:=Sc (T:=ba prog) (G:=aT prog) (v:=.tuple []) m rfl (by simp[f245]) (.inl rfl) L rfl (ks:=ks) (by rw[I];simpa [AV.refs,AV.afm] using Y3) (by rw[I];exact W);rw[I] at this;simpa [AV.ren,AV.afp] using this
 have N:=(ar aj (aI _) hO (aP _) K).1;simpa [y9.mem] using N
end Go.Proofs
