/- See E54. -/
import Derived.Test.YthpgbelancmpjaaGreatDoorE11
import Derived.Test.YthpgbelancmpjaaGreatDoorE12
import Derived.Shelf.Strings.Builder1
set_option linter.all false
set_option maxRecDepth 100000
set_option maxHeartbeats 40000000
namespace Go.Proofs
open Go.Eng
open Tryz
noncomputable def aY(t:TypeId)(k:Nat):Field:=match prog.underlying t with
 |some (.struct fs)=>fs.getD k default
 |_=>default
theorem TC:aV prog 23=some ⟨.array 2 22,2,2,.agg #[.int .i8 0,.int .i8 0],true⟩:=by kernel_rfl
noncomputable def tE:Field:=aY 25 0
theorem Hr:tE.type=5:=by kernel_rfl
theorem Hq:tE.offset=0:=by kernel_rfl
noncomputable def tF:Field:=aY 25 1
theorem Ht:tF.type=23:=by kernel_rfl
theorem Hs:tF.offset=1:=by kernel_rfl
noncomputable def tG:Field:=aY 25 2
theorem Hv:tG.type=4:=by kernel_rfl
theorem Hu:tG.offset=3:=by kernel_rfl
theorem TD:aV prog 25=some ⟨.struct #[tE,tF,tG],4,4,.agg #[.int .u8 0,.int .i8 0,.int .i8 0,.bool false],true⟩:=by kernel_rfl
theorem TE:aV prog 26=some ⟨.array 6 22,6,6,.agg #[.int .i8 0,.int .i8 0,.int .i8 0,.int .i8 0,.int .i8 0,.int .i8 0],true⟩:=by kernel_rfl
noncomputable def tH:Field:=aY 28 0
theorem Hx:tH.type=26:=by kernel_rfl
theorem Hw:tH.offset=0:=by kernel_rfl
noncomputable def tI:Field:=aY 28 1
theorem Hz:tI.type=4:=by kernel_rfl
theorem Hy:tI.offset=6:=by kernel_rfl
theorem TF:aV prog 28=some ⟨.struct #[tH,tI],7,7,.agg #[.int .i8 0,.int .i8 0,.int .i8 0,.int .i8 0,.int .i8 0,.int .i8 0,.bool false],true⟩:=by kernel_rfl
theorem TG:aV prog 29=some ⟨.array 2 28,14,14,.agg #[.int .i8 0,.int .i8 0,.int .i8 0,.int .i8 0,.int .i8 0,.int .i8 0,.bool false,.int .i8 0,.int .i8 0,.int .i8 0,.int .i8 0,.int .i8 0,.int .i8 0,.bool false],true⟩:=by kernel_rfl
theorem TH:aV prog 30=some ⟨.array 8 22,8,8,.agg #[.int .i8 0,.int .i8 0,.int .i8 0,.int .i8 0,.int .i8 0,.int .i8 0,.int .i8 0,.int .i8 0],true⟩:=by kernel_rfl
theorem TI:aV prog 32=some ⟨.array 4 22,4,4,.agg #[.int .i8 0,.int .i8 0,.int .i8 0,.int .i8 0],true⟩:=by kernel_rfl
noncomputable def tJ:Field:=aY 34 0
theorem HB:tJ.type=5:=by kernel_rfl
theorem HA:tJ.offset=0:=by kernel_rfl
noncomputable def tK:Field:=aY 34 1
theorem HD:tK.type=28:=by kernel_rfl
theorem HC:tK.offset=1:=by kernel_rfl
noncomputable def tL:Field:=aY 34 2
theorem HF:tL.type=29:=by kernel_rfl
theorem HE:tL.offset=8:=by kernel_rfl
noncomputable def tM:Field:=aY 34 3
theorem HH:tM.type=30:=by kernel_rfl
theorem HG:tM.offset=22:=by kernel_rfl
noncomputable def tN:Field:=aY 34 4
theorem HJ:tN.type=32:=by kernel_rfl
theorem HI:tN.offset=30:=by kernel_rfl
theorem TJ:aV prog 34=some ⟨.struct #[tJ,tK,tL,tM,tN],34,34,.agg #[.int .u8 0,.int .i8 0,.int .i8 0,.int .i8 0,.int .i8 0,.int .i8 0,.int .i8 0,.bool false,.int .i8 0,.int .i8 0,.int .i8 0,.int .i8 0,.int .i8 0,.int .i8 0,.bool false,.int .i8 0,.int .i8 0,.int .i8 0,.int .i8 0,.int .i8 0,.int .i8 0,.bool false,.int .i8 0,.int .i8 0,.int .i8 0,.int .i8 0,.int .i8 0,.int .i8 0,.int .i8 0,.int .i8 0,.int .i8 0,.int .i8 0,.int .i8 0,.int .i8 0],true⟩:=by kernel_rfl
noncomputable def tP:Field:=aY 37 0
theorem HL:tP.type=35:=by kernel_rfl
theorem HK:tP.offset=0:=by kernel_rfl
noncomputable def tQ:Field:=aY 37 1
theorem HN:tQ.type=5:=by kernel_rfl
theorem HM:tQ.offset=1:=by kernel_rfl
theorem TL:aV prog 37=some ⟨.struct #[tP,tQ],2,4,.agg #[.int .i16 0,.int .u8 0],true⟩:=by kernel_rfl
theorem TM:aV prog 39=some ⟨.array 3 37,6,12,.agg #[.int .i16 0,.int .u8 0,.int .i16 0,.int .u8 0,.int .i16 0,.int .u8 0],true⟩:=by kernel_rfl
noncomputable def tS:Field:=aY 44 0
theorem HP:tS.type=41:=by kernel_rfl
theorem HO:tS.offset=0:=by kernel_rfl
noncomputable def tT:Field:=aY 44 1
theorem HR:tT.type=42:=by kernel_rfl
theorem HQ:tT.offset=1:=by kernel_rfl
theorem TP:aV prog 44=some ⟨.struct #[tS,tT],2,48,.agg #[.slice none 0 0,.slice none 0 0],true⟩:=by kernel_rfl
noncomputable def tU:Field:=aY 51 0
theorem HT:tU.type=47:=by kernel_rfl
theorem HS:tU.offset=0:=by kernel_rfl
noncomputable def tV:Field:=aY 51 1
theorem HV:tV.type=48:=by kernel_rfl
theorem HU:tV.offset=1:=by kernel_rfl
noncomputable def tW:Field:=aY 51 2
theorem HX:tW.type=49:=by kernel_rfl
theorem HW:tW.offset=2:=by kernel_rfl
theorem TV:aV prog 51=some ⟨.struct #[tU,tV,tW],3,72,.agg #[.slice none 0 0,.slice none 0 0,.slice none 0 0],true⟩:=by kernel_rfl
noncomputable def nU:Field:=aY 54 0
theorem H3:nU.type=52:=by kernel_rfl
theorem HZ:nU.offset=0:=by kernel_rfl
theorem HY:(nU.name = "_")=False:=eq_false (by decide +kernel)
noncomputable def nW:Field:=aY 54 1
theorem H6:nW.type=52:=by kernel_rfl
theorem H5:nW.offset=1:=by kernel_rfl
theorem H4:(nW.name = "_")=False:=eq_false (by decide +kernel)
noncomputable def nX:Field:=aY 54 2
theorem H9:nX.type=52:=by kernel_rfl
theorem H8:nX.offset=2:=by kernel_rfl
theorem H7:(nX.name = "_")=False:=eq_false (by decide +kernel)
theorem TX:aV prog 54=some ⟨.struct #[nU,nW,nX],3,48,.agg #[.string ⟨#[]⟩,.string ⟨#[]⟩,.string ⟨#[]⟩],true⟩:=by kernel_rfl
noncomputable def nY:Field:=aY 56 0
theorem Ic:nY.type=54:=by kernel_rfl
theorem Ib:nY.offset=0:=by kernel_rfl
theorem Ia:(nY.name = "_")=False:=eq_false (by decide +kernel)
noncomputable def nZ:Field:=aY 56 1
theorem Ig:nZ.type=52:=by kernel_rfl
theorem If:nZ.offset=3:=by kernel_rfl
theorem Ie:(nZ.name = "_")=False:=eq_false (by decide +kernel)
theorem TY:aV prog 56=some ⟨.struct #[nY,nZ],4,64,.agg #[.string ⟨#[]⟩,.string ⟨#[]⟩,.string ⟨#[]⟩,.string ⟨#[]⟩],true⟩:=by kernel_rfl
noncomputable def n8:Field:=aY 58 0
theorem Ij:n8.type=56:=by kernel_rfl
theorem Ii:n8.offset=0:=by kernel_rfl
theorem Ih:(n8.name = "_")=False:=eq_false (by decide +kernel)
noncomputable def n9:Field:=aY 58 1
theorem Im:n9.type=54:=by kernel_rfl
theorem Il:n9.offset=4:=by kernel_rfl
theorem Ik:(n9.name = "_")=False:=eq_false (by decide +kernel)
theorem TZ:aV prog 58=some ⟨.struct #[n8,n9],7,112,.agg #[.string ⟨#[]⟩,.string ⟨#[]⟩,.string ⟨#[]⟩,.string ⟨#[]⟩,.string ⟨#[]⟩,.string ⟨#[]⟩,.string ⟨#[]⟩],true⟩:=by kernel_rfl
noncomputable def tX:Field:=aY 61 0
theorem Ip:tX.type=54:=by kernel_rfl
theorem Io:tX.offset=0:=by kernel_rfl
noncomputable def tY:Field:=aY 61 1
theorem Ir:tY.type=59:=by kernel_rfl
theorem Iq:tY.offset=3:=by kernel_rfl
noncomputable def tZ:Field:=aY 61 2
theorem It:tZ.type=54:=by kernel_rfl
theorem Is:tZ.offset=4:=by kernel_rfl
theorem T1:aV prog 61=some ⟨.struct #[tX,tY,tZ],7,120,.agg #[.string ⟨#[]⟩,.string ⟨#[]⟩,.string ⟨#[]⟩,.slice none 0 0,.string ⟨#[]⟩,.string ⟨#[]⟩,.string ⟨#[]⟩],true⟩:=by kernel_rfl
noncomputable def od:Field:=aY 63 0
theorem Iw:od.type=56:=by kernel_rfl
theorem Iv:od.offset=0:=by kernel_rfl
theorem Iu:(od.name = "_")=False:=eq_false (by decide +kernel)
noncomputable def oh:Field:=aY 63 1
theorem Iz:oh.type=52:=by kernel_rfl
theorem Iy:oh.offset=4:=by kernel_rfl
theorem Ix:(oh.name = "_")=False:=eq_false (by decide +kernel)
noncomputable def om:Field:=aY 63 2
theorem IC:om.type=9:=by kernel_rfl
theorem IB:om.offset=5:=by kernel_rfl
theorem IA:(om.name = "_")=False:=eq_false (by decide +kernel)
theorem T2:aV prog 63=some ⟨.struct #[od,oh,om],6,96,.agg #[.string ⟨#[]⟩,.string ⟨#[]⟩,.string ⟨#[]⟩,.string ⟨#[]⟩,.string ⟨#[]⟩,.string ⟨#[]⟩],true⟩:=by kernel_rfl
theorem Fv:aV prog 64=some ⟨.array 4 3,4,32,.agg #[.int .i64 0,.int .i64 0,.int .i64 0,.int .i64 0],true⟩:=by kernel_rfl
noncomputable def oo:Field:=aY 66 0
theorem IF:oo.type=64:=by kernel_rfl
theorem IE:oo.offset=0:=by kernel_rfl
theorem ID:(oo.name = "_")=False:=eq_false (by decide +kernel)
noncomputable def ot:Field:=aY 66 1
theorem II:ot.type=54:=by kernel_rfl
theorem IH:ot.offset=4:=by kernel_rfl
theorem IG:(ot.name = "_")=False:=eq_false (by decide +kernel)
theorem T3:aV prog 66=some ⟨.struct #[oo,ot],7,80,.agg #[.int .i64 0,.int .i64 0,.int .i64 0,.int .i64 0,.string ⟨#[]⟩,.string ⟨#[]⟩,.string ⟨#[]⟩],true⟩:=by kernel_rfl
noncomputable def ua:Field:=aY 68 0
theorem IK:ua.type=3:=by kernel_rfl
theorem IJ:ua.offset=0:=by kernel_rfl
noncomputable def uc:Field:=aY 68 1
theorem IM:uc.type=9:=by kernel_rfl
theorem IL:uc.offset=1:=by kernel_rfl
noncomputable def ud:Field:=aY 68 2
theorem IP:ud.type=51:=by kernel_rfl
theorem IN:ud.offset=2:=by kernel_rfl
noncomputable def ue:Field:=aY 68 3
theorem IS:ue.type=58:=by kernel_rfl
theorem IQ:ue.offset=5:=by kernel_rfl
noncomputable def uf:Field:=aY 68 4
theorem IU:uf.type=61:=by kernel_rfl
theorem IT:uf.offset=12:=by kernel_rfl
noncomputable def ug:Field:=aY 68 5
theorem IW:ug.type=63:=by kernel_rfl
theorem IV:ug.offset=19:=by kernel_rfl
noncomputable def uh:Field:=aY 68 6
theorem IY:uh.type=66:=by kernel_rfl
theorem IX:uh.offset=25:=by kernel_rfl
theorem T4:aV prog 68=some ⟨.struct #[ua,uc,ud,ue,uf,ug,uh],32,504,.agg #[.int .i64 0,.string ⟨#[]⟩,.slice none 0 0,.slice none 0 0,.slice none 0 0,.string ⟨#[]⟩,.string ⟨#[]⟩,.string ⟨#[]⟩,.string ⟨#[]⟩,.string ⟨#[]⟩,.string ⟨#[]⟩,.string ⟨#[]⟩,.string ⟨#[]⟩,.string ⟨#[]⟩,.string ⟨#[]⟩,.slice none 0 0,.string ⟨#[]⟩,.string ⟨#[]⟩,.string ⟨#[]⟩,.string ⟨#[]⟩,.string ⟨#[]⟩,.string ⟨#[]⟩,.string ⟨#[]⟩,.string ⟨#[]⟩,.string ⟨#[]⟩,.int .i64 0,.int .i64 0,.int .i64 0,.int .i64 0,.string ⟨#[]⟩,.string ⟨#[]⟩,.string ⟨#[]⟩],true⟩:=by kernel_rfl
noncomputable def ov:Field:=aY 79 0
theorem I3:ov.type=52:=by kernel_rfl
theorem I2:ov.offset=0:=by kernel_rfl
theorem IZ:(ov.name = "_")=False:=eq_false (by decide +kernel)
noncomputable def oz:Field:=aY 79 1
theorem I7:oz.type=52:=by kernel_rfl
theorem I6:oz.offset=1:=by kernel_rfl
theorem I5:(oz.name = "_")=False:=eq_false (by decide +kernel)
theorem T7:aV prog 79=some ⟨.struct #[ov,oz],2,32,.agg #[.string ⟨#[]⟩,.string ⟨#[]⟩],true⟩:=by kernel_rfl
theorem QR:aV prog 100=some ⟨.array 3 54,9,144,.agg #[.string ⟨#[]⟩,.string ⟨#[]⟩,.string ⟨#[]⟩,.string ⟨#[]⟩,.string ⟨#[]⟩,.string ⟨#[]⟩,.string ⟨#[]⟩,.string ⟨#[]⟩,.string ⟨#[]⟩],true⟩:=by kernel_rfl
noncomputable def qz:Field:=aY 102 0
theorem EN:qz.type=100:=by kernel_rfl
theorem EM:qz.offset=0:=by kernel_rfl
noncomputable def qA:Field:=aY 102 1
theorem EP:qA.type=54:=by kernel_rfl
theorem EO:qA.offset=9:=by kernel_rfl
theorem QS:aV prog 102=some ⟨.struct #[qz,qA],12,192,.agg #[.string ⟨#[]⟩,.string ⟨#[]⟩,.string ⟨#[]⟩,.string ⟨#[]⟩,.string ⟨#[]⟩,.string ⟨#[]⟩,.string ⟨#[]⟩,.string ⟨#[]⟩,.string ⟨#[]⟩,.string ⟨#[]⟩,.string ⟨#[]⟩,.string ⟨#[]⟩],true⟩:=by kernel_rfl
noncomputable def lz:Field:=aY 108 0
theorem ET:lz.type=52:=by kernel_rfl
theorem ES:lz.offset=0:=by kernel_rfl
theorem ER:(lz.name = "_")=False:=eq_false (by decide +kernel)
noncomputable def lK:Field:=aY 108 1
theorem EW:lK.type=52:=by kernel_rfl
theorem EV:lK.offset=1:=by kernel_rfl
theorem EU:(lK.name = "_")=False:=eq_false (by decide +kernel)
theorem QT:aV prog 108=some ⟨.struct #[lz,lK],2,32,.agg #[.string ⟨#[]⟩,.string ⟨#[]⟩],true⟩:=by kernel_rfl
theorem Jz:aV prog 115=some ⟨.array 2 3,2,16,.agg #[.int .i64 0,.int .i64 0],true⟩:=by kernel_rfl
theorem QV:aV prog 130=some ⟨.array 3 79,6,96,.agg #[.string ⟨#[]⟩,.string ⟨#[]⟩,.string ⟨#[]⟩,.string ⟨#[]⟩,.string ⟨#[]⟩,.string ⟨#[]⟩],true⟩:=by kernel_rfl
theorem QW:aV prog 164=some ⟨.array 3 52,3,48,.agg #[.string ⟨#[]⟩,.string ⟨#[]⟩,.string ⟨#[]⟩],true⟩:=by kernel_rfl
theorem QX:aV prog 171=some ⟨.array 3 3,3,24,.agg #[.int .i64 0,.int .i64 0,.int .i64 0],true⟩:=by kernel_rfl
theorem QY:aV prog 172=some ⟨.array 3 3,3,24,.agg #[.int .i64 0,.int .i64 0,.int .i64 0],true⟩:=by kernel_rfl
theorem Q2:aV prog 198=some ⟨.array 3 52,3,48,.agg #[.string ⟨#[]⟩,.string ⟨#[]⟩,.string ⟨#[]⟩],true⟩:=by kernel_rfl
theorem Q3:aV prog 206=some ⟨.array 3 52,3,48,.agg #[.string ⟨#[]⟩,.string ⟨#[]⟩,.string ⟨#[]⟩],true⟩:=by kernel_rfl
theorem Q4:aV prog 208=some ⟨.array 3 206,9,144,.agg #[.string ⟨#[]⟩,.string ⟨#[]⟩,.string ⟨#[]⟩,.string ⟨#[]⟩,.string ⟨#[]⟩,.string ⟨#[]⟩,.string ⟨#[]⟩,.string ⟨#[]⟩,.string ⟨#[]⟩],true⟩:=by kernel_rfl
noncomputable def qB:Field:=aY 251 0
theorem EY:qB.type=4:=by kernel_rfl
theorem EX:qB.offset=0:=by kernel_rfl
noncomputable def qD:Field:=aY 251 1
theorem E3:qD.type=249:=by kernel_rfl
theorem EZ:qD.offset=1:=by kernel_rfl
theorem Q6:aV prog 251=some ⟨.struct #[qB,qD],2,32,.agg #[.bool false,.slice none 0 0],true⟩:=by kernel_rfl
noncomputable def yj:Field:=aY 300 0
theorem E4:yj.type=297:=by kernel_rfl
noncomputable def qE:Field:=aY 300 1
theorem E6:qE.type=298:=by kernel_rfl
theorem E5:qE.offset=1:=by kernel_rfl
theorem Rb:aV prog 300=some ⟨.struct #[yj,qE],2,32,.agg #[.pointer none,.slice none 0 0],true⟩:=by kernel_rfl
noncomputable def qG:Field:=aY 348 0
theorem E8:qG.type=79:=by kernel_rfl
theorem E7:qG.offset=0:=by kernel_rfl
noncomputable def qI:Field:=aY 348 1
theorem Fa:qI.type=52:=by kernel_rfl
theorem E9:qI.offset=2:=by kernel_rfl
theorem Rd:aV prog 348=some ⟨.struct #[qG,qI],3,48,.agg #[.string ⟨#[]⟩,.string ⟨#[]⟩,.string ⟨#[]⟩],true⟩:=by kernel_rfl
theorem Re:aV prog 349=some ⟨.array 3 348,9,144,.agg #[.string ⟨#[]⟩,.string ⟨#[]⟩,.string ⟨#[]⟩,.string ⟨#[]⟩,.string ⟨#[]⟩,.string ⟨#[]⟩,.string ⟨#[]⟩,.string ⟨#[]⟩,.string ⟨#[]⟩],true⟩:=by kernel_rfl
attribute [simp] TC Hr
attribute [simp] Hq Ht Hs Hv Hu TD TE Hx Hw
attribute [simp] Hz Hy TF TG TH TI
attribute [simp] HB HA HD HC HF HE HH HG HJ HI TJ
attribute [simp] HL HK HN HM TL TM
attribute [simp] HP HO HR HQ TP
attribute [simp] HT HS HV HU HX HW TV
attribute [simp] H3 HZ HY H6 H5 H4 H9 H8 H7 TX Ic Ib Ia
attribute [simp] Ig If Ie TY Ij Ii Ih Im Il Ik TZ
attribute [simp] Ip Io Ir Iq It Is T1
attribute [simp] Iw Iv Iu Iz Iy Ix IC IB IA T2 Fv
attribute [simp] IF IE ID II IH IG T3
attribute [simp] IK IJ IM IL
attribute [simp] IP IN IS IQ IU IT IW IV IY IX T4
attribute [simp] I3 I2 IZ I7 I6 I5 T7
attribute [simp] QR
attribute [simp] EN EM EP EO QS ET
attribute [simp] ES ER EW EV EU QT Jz QV QW QX QY Q2 Q3 Q4
attribute [simp] EY EX E3 EZ Q6 E4 E6
attribute [simp] E5 Rb E8 E7 Fa E9 Rd
attribute [simp] Re
noncomputable def bC(f:FuncId)(args:List AV):Option AV:=
 match f,args with
 |252,[.str s,.int .i64 b,.int .i64 w]=>if s≠[]∧s.all isD=true∧s.length≤18∧b=10∧w=64 then some (.tuple [.int .u64 (fm s:Nat),.nilIface]) else none
 |256,[.int .u64 u,.int .i64 b]=>if 0≤u∧u≤18446744073709551615∧b=10 then some (.str (au u.toNat)) else none
 |f,args=>an f args
theorem AM:qS prog (ag bC):=bM fun f V v h mem=>by
 unfold bC at h;split at h
 ·split at h
  ·rename_i X
   obtain⟨Z,U,h3,rfl,rfl⟩:=X;cases h;exact Aq _ Z U h3 mem
  ·cases h
 ·split at h
  ·rename_i X
   obtain⟨Z,U,rfl⟩:=X;cases h;have S:=(Int.toNat_lt Z).2 (show _<((18446744073709551616:Nat):Int) by omega);have:=yZ _ S mem;rw[Int.toNat_of_nonneg Z] at this;exact this
  ·cases h
 ·have:=cW.fn _ _ mem ⟨v,none,[]⟩ (by unfold ag;simp only;rw[h])
  simpa [aee.mem] using this
noncomputable def bF:y9:=fun c Z M=>((ag bC).or bQ) c Z M
theorem qg:qS prog bF:=AM.or He
def uC:List Nat→Mem
 | []=>[.cells true 0 [.bool false,.qF],.cells true 1 []]
 |x::l=>[.cells true 0 [.bool false,.qF],.qK,.cells true 1 (iN .u64 (x::l))]
def rE:List Nat→AV
 | []=>.slice 1 0 0 none
 |x::l=>.slice 2 0 (l.length+1) none
theorem CV{K:Nat}(H:List UInt8)(hd:H.all isD=true)(W:H.length≤1000000)(J:H.length<K){b:Code}(I:ah f210=[b]):
  ∃F:Env→Bool→Env,∀Z d,(ad Z 3=.str H∧ad Z 5=.slice 1 0 0 none)→
   aS (aV prog) (fun _=>[3,5]) bF K 44 0 true (.loop b) ⟨Z,uC [],d⟩=some (.exit 0,⟨F Z d,uC (ia H),d⟩)∧
   (ad (F Z d) 5=rE (ia H)∧ad (F Z d) 2=ad Z 2∧ad (F Z d) 4=ad Z 4):=by
 refine bw rfl (fun Z=>ad Z 3=.str H∧ad Z 5=.slice 1 0 0 none) (fun Z L =>ad L 5=rE (ia H)∧ad L 2=ad Z 2∧ad L 4=ad Z 4) ?_;rintro Z d ⟨h3,h5⟩;simp[ah,aG,f210] at I;have X:aw [3,5] (ae b) Z ((3,.str H)::(5,rE [])::Z)=aw [3,5] (ae b) Z Z:=by simp[aw,h3,h5,rE]
 rw[←X];refine bO (α:=List UInt8×List Nat) (fun a=>⟨aw [3,5] (ae b) Z ((3,.str a.1)::(5,rE a.2)::Z),uC a.2,d⟩) (fun a=>a.1.length)
  (fun a=>a.1.all isD=true∧a.1.length≤H.length∧a.2++ia a.1=ia H) (.exit 0) _ d _ (by simp) ?_ K (H,[]) ⟨hd,Nat.le_refl _,rfl⟩ J
 rintro ⟨s,done⟩ ⟨P',XY,J'⟩;simp only at P' XY J';clear X;subst I;by_cases hs0:s=[]
 ·right
  subst hs0;rw[PK,List.append_nil] at J';rw[←J'];simp
 ·left
  have D:0<s.length:=List.length_pos_iff.2 hs0;rw[xr hs0] at J';have u:done.length≤1000000:=by have C:=(kJ _ H (Nat.le_refl _) hd).2.2;rw[←J'] at C;simp at C;omega
  obtain⟨k,B⟩:=xE (s.length-9);rw[←B] at J';obtain⟨n,X⟩:=xE (fm (s.drop k));have o:n<1000000000:=by rw[X,B];exact NM P'
  rw[←X] at J';have w1:IntKind.i64.wrap ((s.length:Int)-9)=(s.length:Int)-9:=af;have O:(if (s.length:Int)-9<0 then (0:Int) else (s.length:Int)-9)=(k:Int):=by split<;>omega
  have m:k≤s.length:=by omega
  have G:(s.drop k).take (s.length-k)=s.drop k:=List.take_of_length_le (by simp);have V:s.drop k≠[]:=by intro e;have:=congrArg List.length e;simp at this;omega
  have U:=NG P' k;have S:(s.drop k).length≤18:=by simp;omega
  have N:(k:Int)≤(s.length:Int):=by omega
  have A:(done.length+1)*8≤140737488355328:=by omega
  have M:done.length+1≤140737488355328:=by omega
  obtain⟨sd,R⟩:=xE (s.drop k);rw[←R] at G V U S X;refine⟨(s.take k,done++[n]),?_⟩;refine bH (r:=_∧_) (show((s.take k).all isD=true∧(s.take k).length≤H.length∧(done++[n])++ia (s.take k)=ia H)∧(s.take k).length<s.length by refine⟨⟨FC P' k,by simp;omega,?_⟩,by simp;omega⟩;rw[←J'];simp) ?_
  clear J';have j:0<(s.length:Int):=by omega
  cases done with
  |nil=>
   simp[uC,rE,bF,y9.or,ag,bC,D,w1,O,N,←R,G,V,U,S,←X,cB,Nat.testBit]
  |cons x l=>
   have Y:(iN .u64 l).take l.length=iN .u64 l:=List.take_of_length_le (by simp);simp only[List.length_cons] at A M;simp[uC,rE,bF,y9.or,ag,bC,D,w1,O,N,←R,G,V,U,S,←X,Y,A,M,cB,dU,Nat.testBit]
section
variable (z:Int)(hl:(au z.natAbs).length≤1000000)
include z hl
theorem Fk:aa (aV prog) (fun _=>[3,5]) (aT prog) bF ((au z.natAbs).length+1) 210 [.str (bL z)] []=
  some ⟨.agg [.bool (decide (z<0)),.slice 0 0 (bD (ia (au z.natAbs))).length none],none,[.cells true 1 (iN .u64 (ia (au z.natAbs)))]⟩:=by
 have C:aT prog 210=some f210:=by kernel_rfl
 obtain⟨b,U⟩:∃b,ah f210=[b]:=⟨_,rfl⟩
 obtain⟨F,X⟩:=CV (K:=(au z.natAbs).length+1) (au z.natAbs) (dC _) hl (by omega) U;simp[ah,aG,f210] at U;subst U;obtain⟨B,A,N⟩:=kJ _ (au z.natAbs) (Nat.le_refl _) (dC _);have S:ia (au z.natAbs)≠[]:=by rw[xr (iS _)];simp
 obtain⟨Z,R⟩:=xE (ia (au z.natAbs));rw[←R] at X B A N S ⊢;have u:uC Z=[.cells true 0 [.bool false,.qF],.qK,.cells true 1 (iN .u64 Z)]:=by cases Z<;>first | exact absurd rfl S | rfl
 have o:rE Z=.slice 2 0 Z.length none:=by cases Z<;>first | exact absurd rfl S | rfl
 rw[u,o] at X;simp only[uC] at X;obtain⟨L,M⟩:=xE ((au z.natAbs).length);obtain⟨c,m⟩:=xE (α:=Nat) (L / 9+1);obtain⟨O,V⟩:=xE (α:=Nat) (L / 9);rw[←M] at X hl N ⊢;have w1:IntKind.i64.wrap ((L:Int) / 9)=(O:Int):=by rw[af];omega
 have j :IntKind.i64.wrap ((L:Int).tdiv 9)=(O:Int):=by rw[U2 L 9,←V];exact af
 have w2:IntKind.i64.wrap ((O:Int)+1)=(c:Int):=by rw[af];omega
 have Y:8*(c:Int)≤281474976710656:=by omega
 have W:(c:Int)≤281474976710656:=by omega
 have hs2:∀G D l,bP .u64 (G::D::.cells true 1 (iN .u64 Z)::l) (.slice 2 0 Z.length none)=some Z:=fun G D l=>bz rfl (by simp) (List.take_of_length_le (by simp))
 have J:Z.length≤1000000000:=by omega
 clear m V;simp[aa,C,f210,bF,bQ,bS,bN,bB,y9.or,ag,bC,an,gy,ju,←M,w1,w2,Y,W,X,hs2,J,bJ,aD]
theorem Lz(M:Mem):kO prog 210 [.str (bL z)] M (.agg [.bool (decide (z<0)),.slice M.length 0 (dig 1000000000 z.natAbs).length none]) (M++[.cells true 1 (iN .u64 (dig 1000000000 z.natAbs))]):=by
 obtain⟨S,X,R⟩:=kJ _ (au z.natAbs) (Nat.le_refl _) (dC _);rw[dJ] at X;have V:bD (ia (au z.natAbs))=dig 1000000000 z.natAbs:=by rw[←fM (by omega) S,X]
 have h:=(aq ai (aO _) qg (aR _) (Fk z hl)).1;simp only[aee.mem,Option.getD_none,List.nil_append] at h;have U:=kO.afs (m2:=[.cells true 1 (iN .u64 (dig 1000000000 z.natAbs))]) h rfl (fun b s Z=>by
  match b with
  |0=>simp at Z;subst Z;exact⟨_,rfl,.row (by rw[←V];exact eU _)⟩
  |b+1=>simp at Z)
 rw[V] at U;have h3:=kO.frame (M:=M) [] (m:=[]) (new:=[.cells true 1 (iN .u64 (dig 1000000000 z.natAbs))]) rfl (by simp) rfl (by simp) rfl U;simpa [AV.ren,AV.aez,fq] using h3
end
end Go.Proofs
namespace Go.Proofs
open Go.Eng Go.Shelf Go.RowKit Go.Sort
open Tryz
theorem Kh{P:Program}{e:TypeId}{n s d:Nat}(hd:P.depth=d+1)(I:P.cellsOf e=s+1)(H:sameLayout P P.depth e e=true)(J:1≤n):liesAt P P.depth e n 0 e 1=true:=by rw[hd] at H;simp[hd,liesAt,rowAt,I,H,J]
theorem ze(n:Nat)(H:1≤n):liesAt prog prog.depth 300 n 0 300 1=true:=
 Kh (s:=1) (d:=prog.depth-1) (by kernel_rfl) (by kernel_rfl) (by kernel_rfl) H
theorem wQ:prog.cellsOf 300=2:=by kernel_rfl
theorem po:(prog.info? 300).map (·.size)=some 2:=by kernel_rfl
theorem tz(b:Nat)(w:World)(h0:w.cell? ⟨b,0,none⟩=some (.pointer (some ⟨b,0,none⟩))):
  Calls prog 278 #[.pointer (some ⟨b,0,none⟩)] w fun e w' =>e=.returned (.tuple #[])∧w' =w:=by
 obtain⟨j,Z,_⟩:=Option.map_eq_some_iff.1 po
 go_enter func278,ntmps278
 go_wp2
 rw[Lib.run_neq_ptr_same w _ (tp:=297) (te:=300) (by kernel_rfl) Z]
 go_wp2
 go_end0
 exact⟨rfl,rfl⟩
theorem sN(b:Nat)(w:World)(h0:w.cell? ⟨b,0,none⟩=some (.pointer none))(n:Nat)(I:2≤n)(H:w.shape? b=some (300,n))(J:w.frozen? ⟨b,0,none⟩=false):
  Calls prog 278 #[.pointer (some ⟨b,0,none⟩)] w fun e w' =>e=.returned (.tuple #[])∧w' =w.setCell ⟨b,0,none⟩ (.pointer (some ⟨b,0,none⟩)):=by
 obtain⟨j,X,Z⟩:=Option.map_eq_some_iff.1 po;have V:prog.underlying 297=some (.pointer 300):=by kernel_rfl
 have U:prog.underlying 334=some .unsafePointer:=by kernel_rfl
 go_enter func278,ntmps278
 go_wp2
 rw[Lib.run_to_unsafe w ⟨b,0,none⟩ V U X (by rw[Z];decide) H (Nat.lt_of_lt_of_le (Nat.zero_lt_succ 1) I)];simp only[Result.andThen];rw[Oper.upon_value]
 go_wp2
 rw[run_callFunc_extern func297 (by kernel_rfl) (by kernel_rfl) (by kernel_rfl) (e:=Extern.AbiNoEscape.same) (by kernel_rfl)];rw[Lib.run_noEscape];simp only[Result.andThen];rw[Oper.upon_value]
 go_wp2
 rw[Lib.run_from_unsafe w ⟨b,0,none⟩ U V X H (ze _ (by rw[wQ];omega))];simp only[Result.andThen];rw[Oper.upon_value]
 go_wp2
 go_end0
 exact⟨rfl,rfl⟩
abbrev aM:Nat:=1000*(300+1)
theorem sM(mem:Mem)(b:Nat)(H:AV)(I:mem[b]? =some (.cells true aM [.ptr b 0,H])):
  kO prog 278 [.ptr b 0] mem (.tuple []) mem:=by
 refine⟨gC _ func278 (by kernel_rfl) (by kernel_rfl),fun base μ w Vs hG hH hV=>?_⟩;obtain⟨X,_,rfl,hV,rfl⟩:=hV;simp only[aeg] at hV;have S:=hH.slot b _ I;simp only[aeu] at S;obtain⟨O,el,K,N,G,g3,M,L⟩:=S;obtain⟨R,F,D,C⟩:=L trivial;obtain⟨V,Z,U⟩:=M 0 _ rfl;simp only[aeg] at U;obtain⟨B,rfl⟩:=hV;rw[R] at U Z;rw[R];obtain⟨_,rfl⟩:=U;refine(tz (μ b).blk w (by simp only[World.cell?,N];exact Z)).mono ?_;rintro e w' ⟨rfl,rfl⟩;exact⟨_,_,_,μ,rfl,by simp[aeg,aeh],hH,.refl (Nat.le_refl _),rfl,rfl⟩
theorem pZ(mem:Mem)(b:Nat)(I:AV)(H:mem[b]? =some (.cells true aM [.aet,I])):
  kO prog 278 [.ptr b 0] mem (.tuple []) (mem.set b (.cells true aM [.ptr b 0,I])):=by
 refine⟨gC _ func278 (by kernel_rfl) (by kernel_rfl),fun base μ w Vs hG hH hV=>?_⟩;obtain⟨X,_,rfl,hV,rfl⟩:=hV;simp only[aeg] at hV;have K:=hH.slot b _ H;simp only[aeu] at K;obtain⟨Z,el,fr,N,G,g3,F,C⟩:=K;obtain⟨S,rfl,B,A⟩:=C trivial;obtain⟨V,R,D⟩:=F 0 _ rfl;obtain⟨u,O,o⟩:=F 1 _ rfl;simp only[aeg] at D;obtain⟨m,rfl⟩:=hV;rw[S] at R O;rw[S];subst D;have M:el=300:=by have:=G.2 (by decide);exact Nat.succ.inj this
 subst M;have L:w.cell? ⟨(μ b).blk,0,none⟩=some (.pointer none):=by simp only[World.cell?,N];exact R
 have Yq:Z.size=2∨2<Z.size:=by simp only[List.length_cons,List.length_nil] at g3;omega
 refine(sN (μ b).blk w L Z.size (by omega) (by simp only[World.shape?,N]) (by simp[World.frozen?,N])).mono ?_;rintro e w' ⟨rfl,rfl⟩;obtain⟨Y,W⟩:=hH.write (w' :=w.setCell ⟨(μ b).blk,0,none⟩ (.pointer (some ⟨(μ b).blk,0,none⟩))) (s' :=.cells true aM [.ptr b 0,I]) H (jh H) (fun _=>⟨_,List.getElem?_set_self (gL H),rfl⟩) rfl rfl rfl rfl (by simp[World.setCell]) (fun k J=>by simp[World.setCell,Array.getElem?_modify,Ne.symm J]) (by
  simp only[aeu];refine⟨Z.setIfInBounds 0 (.pointer (some ⟨(μ b).blk,0,none⟩)),300,(0,0),by simp[World.setCell,Array.getElem?_modify,N],G,g3,fun j v U=>?_,fun _=>⟨S,rfl,by simpa using B,A⟩⟩
  match j,U with
  |0,U=>
   simp at U;subst U;refine⟨.pointer (some ⟨(μ b).blk,0,none⟩),?_,by simp[aeg,m,S]⟩;rw[S];have:0<Z.size:=by omega
   simp[this]
  |1,U=>
   simp at U;subst U;refine⟨u,?_,o⟩;rw[S];simpa using O
  |j+2,U=>simp at U)
 exact⟨_,_,_,μ,rfl,by simp[aeg,aeh],Y,W,rfl,rfl⟩
end Go.Proofs
namespace Go.Proofs
open Go.Eng
open Tryz
def iB(s:List UInt8):List AV:=s.map fun c=>.int .u8 (c.toNat:Int)
@[simp] theorem WG (s:List UInt8):(iB s).length=s.length:=by simp[iB]
theorem RO(s t:List UInt8):iB (s++t)=iB s++iB t:=by simp[iB]
@[simp] theorem Xy:iB []=[]:=rfl
@[simp] theorem Xh (m:Nat) (s:List UInt8):AV.aew m (iB s)=[]:=by
 induction s with
 |nil=>rfl
 |cons c s ih=>simpa [iB,AV.aew,AV.refs] using ih
@[simp] theorem Xz (ρ:Nat→Option Nat) (s:List UInt8):AV.aez ρ (iB s)=iB s:=by
 induction s with
 |nil=>rfl
 |cons c s ih=>simpa [iB,AV.aez,AV.ren] using ih
@[simp] theorem Xx (s:List UInt8) (p:AV→Prop):(∀x,x∈iB s→p x)↔∀c,c∈s→p (.int .u8 (c.toNat:Int)):=by simp[iB]
theorem jE(s:List UInt8):iH (iB s)=some s:=by
 induction s with
 |nil=>rfl
 |cons c s ih=>
  have Z:(0:Int)≤(c.toNat:Int)∧(c.toNat:Int)<256:=by have:=c.toNat_lt;omega
  show iH (.int .u8 (c.toNat:Int)::iB s)=_
  rw[iH,if_pos Z,ih];simp
noncomputable def fT:y9:=fun c Z M=>match c,Z with
 |.fn 278,[.ptr b 0]=>match M[b]? with
  |some (.cells true es [.aet,sl])=>if es=aM then some ⟨.tuple [],some (M.set b (.cells true aM [.ptr b 0,sl])),[]⟩ else none
  |some (.cells true es [.ptr b' 0,_])=>if es=aM∧b' =b then some ⟨.tuple [],none,[]⟩ else none
  |_=>none
 |_,_=>none
theorem nS:qS prog fT where
 fn f args mem r h:=by
  unfold fT at h;split at h
  ·rename_i V
   cases V;split at h
   ·rename_i b _ es X hb
    split at h
    ·rename_i Z
     cases h;subst Z;simpa [aee.mem] using pZ mem b X hb
    ·cases h
   ·rename_i b _ es b' X hb
    split at h
    ·rename_i Z
     cases h;obtain⟨rfl,rfl⟩:=Z;simpa [aee.mem] using sM mem _ _ hb
    ·cases h
   ·cases h
  ·cases h
 yld b args mem r h:=by unfold fT at h;split at h<;>simp_all
 pre c args mem r p h hp:=by
  unfold fT at h;split at h
  ·split at h
   ·split at h
    ·cases h;cases hp;simp
    ·cases h
   ·split at h
    ·cases h;cases hp
    ·cases h
   ·cases h
  ·cases h
theorem Vg(s:List UInt8):(s.map fun c=>AV.int .u8 (c.toNat:Int))=iB s:=rfl
theorem A7(M:Mem)(b:Nat)(s:List UInt8)(H:M[b]? =some (.cells true aM [.aet,.qF]))(I:s≠[])(J:s.length≤100000000):
  cJ (aV prog) (fun _=>[]) (aT prog) fT 1 257 [.ptr b 0,.str s] M=some (.tuple [.int .i64 (s.length:Int),.nilIface],M.set b (.cells true aM [.ptr b 0,.slice M.length 0 s.length none])++[.cells true 6001 (iB s)]):=by
 have S:aT prog 257=some f257:=by kernel_rfl
 have Z:b<M.length:=gL H;have R:s.length≤140737488355328:=by omega
 have U:∀x,(M.set b x)[b]? =some x:=fun x=>List.getElem?_set_self Z
 have X:∀x l,(M.set b x++l)[b]? =some x:=fun x l=>by rw[List.getElem?_append_left (by simpa using Z),U]
 have V:∀x y l,(M.set b x++l).set b y=M.set b y++l:=fun x y l=>by rw[List.set_append_left _ _ (by simpa using Z),List.set_set]
 clear Z;simp[cJ,S,f257,fT,H,I,R,U,X,V,Vg]
theorem uj(M:Mem)(b:Nat)(c:UInt8)(H:M[b]? =some (.cells true aM [.aet,.qF])):
  cJ (aV prog) (fun _=>[]) (aT prog) fT 1 254 [.ptr b 0,.int .u8 (c.toNat:Int)] M=some (.nilIface,M.set b (.cells true aM [.ptr b 0,.slice (M.length+1) 0 1 none])++[.cells true 1 (iB [c]),.cells true 6001 (iB [c])]):=by
 have S:aT prog 254=some f254:=by kernel_rfl
 have Z:b<M.length:=gL H;have U:∀x,(M.set b x)[b]? =some x:=fun x=>List.getElem?_set_self Z
 have X:∀x l,(M.set b x++l)[b]? =some x:=fun x l=>by rw[List.getElem?_append_left (by simpa using Z),U]
 have V:∀x y l,(M.set b x++l).set b y=M.set b y++l:=fun x y l=>by rw[List.set_append_left _ _ (by simpa using Z),List.set_set]
 clear Z;simp[cJ,S,f254,fT,H,U,X,V,iB]
theorem A8(M:Mem)(b k:Nat)(t s:List UInt8)(H:M[b]? =some (.cells true aM [.ptr b 0,.slice k 0 t.length none]))(hk:M[k]? =some (.cells true 6001 (iB t)))(I:k≠b)(J:t.length+s.length≤100000000):
  cJ (aV prog) (fun _=>[]) (aT prog) fT 1 257 [.ptr b 0,.str s] M=some (.tuple [.int .i64 (s.length:Int),.nilIface],(M.set k .qK).set b (.cells true aM [.ptr b 0,.slice M.length 0 (t.length+s.length) none])++[.cells true 6001 (iB (t++s))]):=by
 have S:aT prog 257=some f257:=by kernel_rfl
 have Z:b<M.length:=gL H;have R:t.length+s.length≤140737488355328:=by omega
 have O:∀x,(M.set k x)[b]? =some (.cells true aM [.ptr b 0,.slice k 0 t.length none]):=fun x=>by rw[List.getElem?_set_ne I,H]
 have X:∀x l,(M.set k x++l)[b]? =some (.cells true aM [.ptr b 0,.slice k 0 t.length none]):=fun x l=>by rw[List.getElem?_append_left (by simpa using Z),O]
 have V:∀x y l,(M.set k x++l).set b y=(M.set k x).set b y++l:=fun x y l=>by rw[List.set_append_left _ _ (by simpa using Z)]
 have U:(iB t).take t.length=iB t:=List.take_of_length_le (by simp);clear Z;simp[cJ,S,f257,fT,H,hk,R,X,V,Vg,U,RO]
theorem zn(H s1 I J:aek)(t:List UInt8)(W:t≠[])(Y:t.length≤100000000):
  cJ (aV prog) (fun _=>[]) (aT prog) cu 1 258 [.ptr 2 0] [H,s1,.cells true aM [.ptr 2 0,.slice 5 0 t.length none],I,J,.cells true 6001 (iB t)]=some (.str t,[H,s1,.cells true aM [.ptr 2 0,.slice 5 0 t.length none],I,J,.qK]):=by
 have X:aT prog 258=some f258:=by kernel_rfl
 have Z:(iB t).take t.length=iB t:=List.take_of_length_le (by simp);have V:(t.length:Int)≤9223372036854775807:=by omega
 have U:0<t.length:=List.length_pos_iff.2 W;simp[cJ,X,f258,V,U,Z,jE,Nat.testBit]
theorem zo(H s1 I J W Y:aek)(t:List UInt8)(ht:t≠[])(hl:t.length≤100000000):
  cJ (aV prog) (fun _=>[]) (aT prog) cu 1 258 [.ptr 2 0] [H,s1,.cells true aM [.ptr 2 0,.slice 7 0 t.length none],I,J,W,Y,.cells true 6001 (iB t)]=some (.str t,[H,s1,.cells true aM [.ptr 2 0,.slice 7 0 t.length none],I,J,W,Y,.qK]):=by
 have X:aT prog 258=some f258:=by kernel_rfl
 have Z:(iB t).take t.length=iB t:=List.take_of_length_le (by simp);have V:(t.length:Int)≤9223372036854775807:=by omega
 have U:0<t.length:=List.length_pos_iff.2 ht;simp[cJ,X,f258,V,U,Z,jE,Nat.testBit]
theorem vD:∀{cs:List AV} {t:List UInt8},iH cs=some t→cs=iB t
 | [],t,h=>by cases h;rfl
 |v::l,t,h=>by
  cases v<;>try (unfold iH at h;cases h;done)
  rename_i k n;cases k<;>try (unfold iH at h;cases h;done)
  unfold iH at h;split at h
  ·rename_i X
   split at h
   ·rename_i r Z
    cases h;have:=vD Z;rw[this];have e:n=max n 0%256:=by omega
    simp only[iB,List.map_cons,List.cons.injEq,AV.int.injEq,true_and,and_true,UInt8.toNat_ofNat'];omega
   ·cases h
  ·cases h
noncomputable def fP:y9:=fun c Z M=>match c,Z with
 |.fn 254,[.ptr b 0,.int .u8 n]=>match M[b]? with
  |some (.cells true es [.aet,.qF])=>if es=aM∧n=45 then some ⟨.nilIface,some (M.set b (.cells true aM [.ptr b 0,.slice (M.length+1) 0 1 none])),[.cells true 1 (iB [45]),.cells true 6001 (iB [45])]⟩ else none
  |_=>none
 |.fn 257,[.ptr b 0,.str s]=>match M[b]? with
  |some (.cells true es [.aet,.qF])=>if es=aM∧s≠[]∧s.length≤100000000 then some ⟨.tuple [.int .i64 (s.length:Int),.nilIface],some (M.set b (.cells true aM [.ptr b 0,.slice M.length 0 s.length none])),[.cells true 6001 (iB s)]⟩ else none
  |some (.cells true es [.ptr b' 0,.slice k 0 n none])=>match M[k]? with
   |some (.cells true es2 cs)=>match iH cs with
    |some t=>if es=aM∧b' =b∧es2=6001∧n=t.length∧k≠b∧t.length+s.length≤100000000 then
      some ⟨.tuple [.int .i64 (s.length:Int),.nilIface],some ((M.set k .qK).set b (.cells true aM [.ptr b 0,.slice M.length 0 (t.length+s.length) none])),[.cells true 6001 (iB (t++s))]⟩ else none
    |none=>none
   |_=>none
  |_=>none
 |.fn 258,[.ptr 2 0]=>match M with
  | [s0,s1,.cells true es [.ptr 2 0,.slice 5 0 n none],s3,s4,.cells true es2 cs]=>match iH cs with
   |some t=>if es=aM∧es2=6001∧n=t.length∧t≠[]∧t.length≤100000000 then
     some ⟨.str t,some [s0,s1,.cells true aM [.ptr 2 0,.slice 5 0 t.length none],s3,s4,.qK],[]⟩ else none
   |none=>none
  | [s0,s1,.cells true es [.ptr 2 0,.slice 7 0 n none],s3,s4,s5,s6,.cells true es2 cs]=>match iH cs with
   |some t=>if es=aM∧es2=6001∧n=t.length∧t≠[]∧t.length≤100000000 then
     some ⟨.str t,some [s0,s1,.cells true aM [.ptr 2 0,.slice 7 0 t.length none],s3,s4,s5,s6,.qK],[]⟩ else none
   |none=>none
  |_=>none
 |_,_=>none
theorem yh:qS prog fP where
 fn f args mem r h:=by
  unfold fP at h;split at h
  ·rename_i V
   cases V;split at h
   ·rename_i hb
    split at h
    ·rename_i Z
     cases h;obtain⟨rfl,rfl⟩:=Z;exact bY ai (aO _) nS (aR _) (uj mem _ 45 hb)
    ·cases h
   ·cases h
  ·rename_i V
   cases V;split at h
   ·rename_i hb
    split at h
    ·rename_i Z
     cases h;obtain⟨rfl,X,h3⟩:=Z;exact bY ai (aO _) nS (aR _) (A7 mem _ _ hb X h3)
    ·cases h
   ·rename_i hb
    split at h
    ·rename_i S
     split at h
     ·rename_i U
      split at h
      ·rename_i Z
       cases h;obtain⟨rfl,rfl,rfl,rfl,X,h3⟩:=Z;have:=vD U;subst this;exact bY ai (aO _) nS (aR _) (A8 mem _ _ _ _ hb S X h3)
      ·cases h
     ·cases h
    ·cases h
   ·cases h
  ·rename_i V
   cases V;split at h
   ·split at h
    ·rename_i U
     split at h
     ·rename_i Z
      cases h;obtain⟨rfl,rfl,rfl,X,h3⟩:=Z;have:=vD U;subst this;simpa [aee.mem] using bY ai (aO _) (az _) (aR _) (zn _ _ _ _ _ X h3)
     ·cases h
    ·cases h
   ·split at h
    ·rename_i U
     split at h
     ·rename_i Z
      cases h;obtain⟨rfl,rfl,rfl,X,h3⟩:=Z;have:=vD U;subst this;simpa [aee.mem] using bY ai (aO _) (az _) (aR _) (zo _ _ _ _ _ _ _ X h3)
     ·cases h
    ·cases h
   ·cases h
  ·cases h
 yld b args mem r h:=by unfold fP at h;split at h<;>simp_all
 pre c args mem r p h hp:=by
  unfold fP at h
  repeat' split at h
  all_goals first
   |(cases h;done)
   |(cases h;cases hp;simp;done)
theorem Rl{T:TypeId→Option TyI}{lv:Code→List Nat}{G:FuncId→Option Func}{O:y9}{K:Nat}{f:FuncId}{args:List AV}{mem H :Mem}{fn:Func}{c:Code}{v:AV}{e:Exit}{I :Env}{ks:List Nat}(hf:G f=some fn)(hb:fn.body=some c)(hl:args.length≤fn.ntmps)(he:e=.normal∨e=.ret)(h:aS T lv O K fn.ntmps mem.length true c ⟨dh 0 args,mem,false⟩=some (e,⟨I,H,true⟩))(J:iW T fn.results.toList I H =some v)(W:pR mem.length H 1000 (v.refs mem.length++(H.take mem.length).flatMap (aek.refs mem.length)) []=ks)(Y:Di mem.length H.length ks=true):
  aa T lv G O K f args mem=some ⟨v.ren (rho mem.length ks),some ((H.take mem.length).map (aek.ren (rho mem.length ks))),ae1 mem.length ks H⟩:=by
 unfold aa;simp only[hf,hb];rw[if_pos hl,h];rcases he with rfl | rfl
 ·simp only[J,if_true]
  rw[W,if_pos Y]
 ·simp only[J,if_true]
  rw[W,if_pos Y]
theorem sS{n:Nat}{A:List Nat}(hA:A.length=n)(hn:0<n)(hl:n≤1000000000)(I bA H m0 eb:Nat)(ob oA:Bool)(M:Nat→Mem)(J:(M n).length=m0)(H':∀j,j<n→(M (j+1)).length≤(M j).length∧m0<(M j).length)(W:∀j,j≤n→(M j)[I]? =some (.cells ob eb [.slice bA 0 n none]))(hr:∀j,j≤n→(M j)[bA]? =some (.cells oA 1 (iN .u64 A)))(Y:∀j,j<n→((M j).take m0).all (fun s=>(s.refs m0).isEmpty)=false)(hy:∀j,j<n→fO prog H [.int .i64 (j:Int),.int .u64 ((A.getD j 0:Nat):Int)] (M (j+1)) (.bool true) (M j))(ks:List Nat)(YI:pR m0 (M 0) 1000 (((M 0).take m0).flatMap (aek.refs m0)) []=ks)(adu:Di m0 (M 0).length ks=true):
  kO prog 279 [.yield H,.ptr I 0] (M n) (.tuple []) (((M 0).take m0).map (aek.ren (rho m0 ks))++ae1 m0 ks (M 0)):=by
 have hG:aT prog 279=some f279:=by kernel_rfl
 obtain⟨O,hO,U⟩:=iV (P:=prog) (fun j:Nat=>j<n) (fun _=>.yld H) (fun j=>[.int .i64 (j:Int),.int .u64 ((A.getD j 0:Nat):Int)]) (fun j=>M (j+1)) (fun j=>⟨.bool true,some ((M j).take (M (j+1)).length),(M j).drop (M (j+1)).length⟩)
  (fun j C=>⟨by simpa [aee.mem] using hy j C,fun q hq=>by cases hq;rw[List.length_take];have:=(H' j C).1;omega⟩)
  (fun i j _ _ _ h _=>by
   simp only[List.cons.injEq,AV.int.injEq] at h;have:i=j:=by omega
   rw[this])
 obtain⟨b,V⟩:∃b,ah f279=[b]:=⟨_,rfl⟩
 have loop:∃F:Env→Env,∀Z,(ad Z 0=.yield H∧ad Z 1=.ptr I 0∧ad Z 3=.int .i64 ((n:Int)-1))→
   aS (aV prog) (fun _=>[3]) O (n+1) 19 m0 true (.loop b) ⟨Z,M n,false⟩=some (.exit 0,⟨F Z,M 0,true⟩)∧True:=by
  refine uy rfl false true (fun Z=>ad Z 0=.yield H∧ad Z 1=.ptr I 0∧ad Z 3=.int .i64 ((n:Int)-1)) (fun _ _=>True) ?_;rintro Z ⟨h0,S,h3⟩;simp[ah,aG,f279] at V;have B:aw [3] (ae b) Z ((3,.int .i64 ((n:Int)-1))::Z)=aw [3] (ae b) Z Z:=by simp[aw,h3]
  rw[←B];have u:(⟨aw [3] (ae b) Z ((3,.int .i64 ((n:Int)-1))::Z),M n,false⟩:XS)=⟨aw [3] (ae b) Z ((3,.int .i64 ((n:Int)-1))::Z),M n,decide (n<n)⟩:=by simp
  rw[u];refine bO (α:=Nat) (fun k=>⟨aw [3] (ae b) Z ((3,.int .i64 ((k:Int)-1))::Z),M k,decide (k<n)⟩) id (fun k=>k≤n) (.exit 0) (M 0) true (fun _=>True) (by simp) ?_ (n+1) n (Nat.le_refl _) (by simp);intro k hk;clear B u;subst V;cases k with
  |zero=>
   right;simp[hn]
  |succ k=>
   left;have X:k<n:=by omega
   have e1:(((k+1:Nat):Int)-1)=(k:Int):=by omega
   have w1:IntKind.i64.wrap ((k:Int)-1)=(k:Int)-1:=af;have l1:¬(M k).length≤m0:=by have:=(H' k X).2;omega
   have R:=W (k+1) (by omega);have r1:=hr (k+1) (by omega);have o:=U k X;have N:=Y k X;obtain⟨x,hx,XX⟩:=dW (l:=A) (i:=k) (by omega);have hg:A.getD k 0=x:=by simp[List.getD,hx]
   rw[hg] at o;rw[e1];refine⟨k,?_⟩;have adm :(k:Int)<(n:Int):=by omega
   simp[h0,S,w1,l1,J,R,r1,XX,hA,X,o,-List.all_eq_false];refine⟨fun h=>?_,by omega⟩;exfalso;have:((List.take m0 (M k)).all fun s=>(aek.refs m0 s).isEmpty)=true:=List.all_eq_true.2 fun s W=>by
    have S:=h s W;have L:aek.refs m0 s=[]:=by cases s<;>exact S
    rw[L];rfl
   rw[N] at this;cases this
 obtain⟨F,hF⟩:=loop;simp[ah,aG,f279] at V;subst V;have w1:IntKind.i64.wrap ((n:Int)-1)=(n:Int)-1:=af;have R:=W n (by omega);have K:∃m,aS (aV prog) (fun _=>[3]) O (n+1) f279.ntmps (M n).length true (f279.body.getD .skip) ⟨dh 0 [.yield H,.ptr I 0],M n,false⟩=some (.normal,⟨m,M 0,true⟩):=by simp[f279,R,w1,J,hF]
 obtain⟨m,K⟩:=K;have D:aa (aV prog) (fun _=>[3]) (aT prog) O (n+1) 279 [.yield H,.ptr I 0] (M n)=some ⟨.tuple [],some (((M 0).take m0).map (aek.ren (rho m0 ks))),ae1 m0 ks (M 0)⟩:=by have:=Rl (T:=aV prog) (G:=aT prog) (v:=.tuple []) hG rfl (by simp[f279]) (.inl rfl) K rfl (ks:=ks) (by rw[J];simpa [AV.refs,AV.aew] using YI) (by rw[J];exact adu);rw[J] at this;simpa [AV.ren,AV.aez] using this
 have L:=(aq ai (aO _) hO (aR _) D).1;simpa [aee.mem] using L
end Go.Proofs
