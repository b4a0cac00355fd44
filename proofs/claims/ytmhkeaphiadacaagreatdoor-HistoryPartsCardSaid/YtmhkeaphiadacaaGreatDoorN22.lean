/- See N58. -/
import Derived.Test.YtmhkeaphiadacaaGreatDoorN14
set_option linter.all false
namespace Go.Proofs
open Go.Eng
theorem OB:az Tryz.prog 23=some ⟨.array 2 22,2,2,.agg #[.int .i8 0,.int .i8 0],true⟩:=by kernel_rfl
noncomputable def md:Field:=match Tryz.prog.underlying 25 with | some (.struct fs)=>fs.getD 0 default | _=>default
theorem Du:md.type=5:=by kernel_rfl
theorem Dt:md.offset=0:=by kernel_rfl
theorem Ds:(md.name = "_")=False:=eq_false (by decide +kernel)
noncomputable def me:Field:=match Tryz.prog.underlying 25 with | some (.struct fs)=>fs.getD 1 default | _=>default
theorem Dx:me.type=23:=by kernel_rfl
theorem Dw:me.offset=1:=by kernel_rfl
theorem Dv:(me.name = "_")=False:=eq_false (by decide +kernel)
noncomputable def mf:Field:=match Tryz.prog.underlying 25 with | some (.struct fs)=>fs.getD 2 default | _=>default
theorem DA:mf.type=4:=by kernel_rfl
theorem Dz:mf.offset=3:=by kernel_rfl
theorem Dy:(mf.name = "_")=False:=eq_false (by decide +kernel)
theorem OC:az Tryz.prog 25=some ⟨.struct #[md,me,mf],4,4,.agg #[.int .u8 0,.int .i8 0,.int .i8 0,.bool false],true⟩:=by kernel_rfl
noncomputable def mg:Field:=match Tryz.prog.underlying 28 with | some (.struct fs)=>fs.getD 0 default | _=>default
theorem DD:mg.type=25:=by kernel_rfl
theorem DC:mg.offset=0:=by kernel_rfl
theorem DB:(mg.name = "_")=False:=eq_false (by decide +kernel)
noncomputable def mh:Field:=match Tryz.prog.underlying 28 with | some (.struct fs)=>fs.getD 1 default | _=>default
theorem DG:mh.type=26:=by kernel_rfl
theorem DF:mh.offset=4:=by kernel_rfl
theorem DE:(mh.name = "_")=False:=eq_false (by decide +kernel)
theorem OE:az Tryz.prog 28=some ⟨.struct #[mg,mh],5,32,.agg #[.int .u8 0,.int .i8 0,.int .i8 0,.bool false,.slice none 0 0],true⟩:=by kernel_rfl
theorem OF:az Tryz.prog 29=some ⟨.array 3 22,3,3,.agg #[.int .i8 0,.int .i8 0,.int .i8 0],true⟩:=by kernel_rfl
theorem OG:az Tryz.prog 30=some ⟨.array 4 5,4,4,.agg #[.int .u8 0,.int .u8 0,.int .u8 0,.int .u8 0],true⟩:=by kernel_rfl
noncomputable def mi:Field:=match Tryz.prog.underlying 32 with | some (.struct fs)=>fs.getD 0 default | _=>default
theorem DJ:mi.type=5:=by kernel_rfl
theorem DI:mi.offset=0:=by kernel_rfl
theorem DH:(mi.name = "_")=False:=eq_false (by decide +kernel)
noncomputable def mj:Field:=match Tryz.prog.underlying 32 with | some (.struct fs)=>fs.getD 1 default | _=>default
theorem DM:mj.type=29:=by kernel_rfl
theorem DL:mj.offset=1:=by kernel_rfl
theorem DK:(mj.name = "_")=False:=eq_false (by decide +kernel)
noncomputable def ml:Field:=match Tryz.prog.underlying 32 with | some (.struct fs)=>fs.getD 2 default | _=>default
theorem DP:ml.type=29:=by kernel_rfl
theorem DO:ml.offset=4:=by kernel_rfl
theorem DN:(ml.name = "_")=False:=eq_false (by decide +kernel)
noncomputable def mo:Field:=match Tryz.prog.underlying 32 with | some (.struct fs)=>fs.getD 3 default | _=>default
theorem DS:mo.type=22:=by kernel_rfl
theorem DR:mo.offset=7:=by kernel_rfl
theorem DQ:(mo.name = "_")=False:=eq_false (by decide +kernel)
noncomputable def mq:Field:=match Tryz.prog.underlying 32 with | some (.struct fs)=>fs.getD 4 default | _=>default
theorem DV:mq.type=30:=by kernel_rfl
theorem DU:mq.offset=8:=by kernel_rfl
theorem DT:(mq.name = "_")=False:=eq_false (by decide +kernel)
theorem OH:az Tryz.prog 32=some ⟨.struct #[mi,mj,ml,mo,mq],12,12,.agg #[.int .u8 0,.int .i8 0,.int .i8 0,.int .i8 0,.int .i8 0,.int .i8 0,.int .i8 0,.int .i8 0,.int .u8 0,.int .u8 0,.int .u8 0,.int .u8 0],true⟩:=by kernel_rfl
noncomputable def mr:Field:=match Tryz.prog.underlying 38 with | some (.struct fs)=>fs.getD 0 default | _=>default
theorem DY:mr.type=35:=by kernel_rfl
theorem DX:mr.offset=0:=by kernel_rfl
theorem DW:(mr.name = "_")=False:=eq_false (by decide +kernel)
noncomputable def ms:Field:=match Tryz.prog.underlying 38 with | some (.struct fs)=>fs.getD 1 default | _=>default
theorem D3:ms.type=36:=by kernel_rfl
theorem D0:ms.offset=1:=by kernel_rfl
theorem DZ:(ms.name = "_")=False:=eq_false (by decide +kernel)
theorem OK:az Tryz.prog 38=some ⟨.struct #[mr,ms],2,48,.agg #[.slice none 0 0,.slice none 0 0],true⟩:=by kernel_rfl
noncomputable def mt:Field:=match Tryz.prog.underlying 41 with | some (.struct fs)=>fs.getD 0 default | _=>default
theorem D6:mt.type=38:=by kernel_rfl
theorem D5:mt.offset=0:=by kernel_rfl
theorem D4:(mt.name = "_")=False:=eq_false (by decide +kernel)
noncomputable def mu:Field:=match Tryz.prog.underlying 41 with | some (.struct fs)=>fs.getD 1 default | _=>default
theorem D9:mu.type=9:=by kernel_rfl
theorem D8:mu.offset=2:=by kernel_rfl
theorem D7:(mu.name = "_")=False:=eq_false (by decide +kernel)
noncomputable def mv:Field:=match Tryz.prog.underlying 41 with | some (.struct fs)=>fs.getD 2 default | _=>default
theorem Ec:mv.type=39:=by kernel_rfl
theorem Eb:mv.offset=3:=by kernel_rfl
theorem Ea:(mv.name = "_")=False:=eq_false (by decide +kernel)
theorem OM:az Tryz.prog 41=some ⟨.struct #[mt,mu,mv],4,88,.agg #[.slice none 0 0,.slice none 0 0,.string ⟨#[]⟩,.slice none 0 0],true⟩:=by kernel_rfl
noncomputable def mw:Field:=match Tryz.prog.underlying 48 with | some (.struct fs)=>fs.getD 0 default | _=>default
theorem Ef:mw.type=44:=by kernel_rfl
theorem Ee:mw.offset=0:=by kernel_rfl
theorem Ed:(mw.name = "_")=False:=eq_false (by decide +kernel)
noncomputable def my:Field:=match Tryz.prog.underlying 48 with | some (.struct fs)=>fs.getD 1 default | _=>default
theorem Ei:my.type=45:=by kernel_rfl
theorem Eh:my.offset=1:=by kernel_rfl
theorem Eg:(my.name = "_")=False:=eq_false (by decide +kernel)
noncomputable def mz:Field:=match Tryz.prog.underlying 48 with | some (.struct fs)=>fs.getD 2 default | _=>default
theorem El:mz.type=46:=by kernel_rfl
theorem Ek:mz.offset=2:=by kernel_rfl
theorem Ej:(mz.name = "_")=False:=eq_false (by decide +kernel)
theorem OR:az Tryz.prog 48=some ⟨.struct #[mw,my,mz],3,72,.agg #[.slice none 0 0,.slice none 0 0,.slice none 0 0],true⟩:=by kernel_rfl
noncomputable def mA:Field:=match Tryz.prog.underlying 51 with | some (.struct fs)=>fs.getD 0 default | _=>default
theorem Ep:mA.type=49:=by kernel_rfl
theorem Eo:mA.offset=0:=by kernel_rfl
theorem Em:(mA.name = "_")=False:=eq_false (by decide +kernel)
noncomputable def mB:Field:=match Tryz.prog.underlying 51 with | some (.struct fs)=>fs.getD 1 default | _=>default
theorem Eu:mB.type=49:=by kernel_rfl
theorem Et:mB.offset=1:=by kernel_rfl
theorem Er:(mB.name = "_")=False:=eq_false (by decide +kernel)
noncomputable def mC:Field:=match Tryz.prog.underlying 51 with | some (.struct fs)=>fs.getD 2 default | _=>default
theorem Ex:mC.type=49:=by kernel_rfl
theorem Ew:mC.offset=2:=by kernel_rfl
theorem Ev:(mC.name = "_")=False:=eq_false (by decide +kernel)
theorem OT:az Tryz.prog 51=some ⟨.struct #[mA,mB,mC],3,48,.agg #[.string ⟨#[]⟩,.string ⟨#[]⟩,.string ⟨#[]⟩],true⟩:=by kernel_rfl
noncomputable def mD:Field:=match Tryz.prog.underlying 53 with | some (.struct fs)=>fs.getD 0 default | _=>default
theorem EA:mD.type=51:=by kernel_rfl
theorem Ez:mD.offset=0:=by kernel_rfl
theorem Ey:(mD.name = "_")=False:=eq_false (by decide +kernel)
noncomputable def mE:Field:=match Tryz.prog.underlying 53 with | some (.struct fs)=>fs.getD 1 default | _=>default
theorem ED:mE.type=49:=by kernel_rfl
theorem EC:mE.offset=3:=by kernel_rfl
theorem EB:(mE.name = "_")=False:=eq_false (by decide +kernel)
theorem OU:az Tryz.prog 53=some ⟨.struct #[mD,mE],4,64,.agg #[.string ⟨#[]⟩,.string ⟨#[]⟩,.string ⟨#[]⟩,.string ⟨#[]⟩],true⟩:=by kernel_rfl
noncomputable def mF:Field:=match Tryz.prog.underlying 55 with | some (.struct fs)=>fs.getD 0 default | _=>default
theorem EG:mF.type=53:=by kernel_rfl
theorem EF:mF.offset=0:=by kernel_rfl
theorem EE:(mF.name = "_")=False:=eq_false (by decide +kernel)
noncomputable def mG:Field:=match Tryz.prog.underlying 55 with | some (.struct fs)=>fs.getD 1 default | _=>default
theorem EJ:mG.type=51:=by kernel_rfl
theorem EI:mG.offset=4:=by kernel_rfl
theorem EH:(mG.name = "_")=False:=eq_false (by decide +kernel)
theorem OV:az Tryz.prog 55=some ⟨.struct #[mF,mG],7,112,.agg #[.string ⟨#[]⟩,.string ⟨#[]⟩,.string ⟨#[]⟩,.string ⟨#[]⟩,.string ⟨#[]⟩,.string ⟨#[]⟩,.string ⟨#[]⟩],true⟩:=by kernel_rfl
noncomputable def mH:Field:=match Tryz.prog.underlying 58 with | some (.struct fs)=>fs.getD 0 default | _=>default
theorem EM:mH.type=51:=by kernel_rfl
theorem EL:mH.offset=0:=by kernel_rfl
theorem EK:(mH.name = "_")=False:=eq_false (by decide +kernel)
noncomputable def mI:Field:=match Tryz.prog.underlying 58 with | some (.struct fs)=>fs.getD 1 default | _=>default
theorem EP:mI.type=56:=by kernel_rfl
theorem EO:mI.offset=3:=by kernel_rfl
theorem EN:(mI.name = "_")=False:=eq_false (by decide +kernel)
noncomputable def mJ:Field:=match Tryz.prog.underlying 58 with | some (.struct fs)=>fs.getD 2 default | _=>default
theorem ES:mJ.type=51:=by kernel_rfl
theorem ER:mJ.offset=4:=by kernel_rfl
theorem EQ:(mJ.name = "_")=False:=eq_false (by decide +kernel)
theorem OX:az Tryz.prog 58=some ⟨.struct #[mH,mI,mJ],7,120,.agg #[.string ⟨#[]⟩,.string ⟨#[]⟩,.string ⟨#[]⟩,.slice none 0 0,.string ⟨#[]⟩,.string ⟨#[]⟩,.string ⟨#[]⟩],true⟩:=by kernel_rfl
noncomputable def mK:Field:=match Tryz.prog.underlying 60 with | some (.struct fs)=>fs.getD 0 default | _=>default
theorem EV:mK.type=53:=by kernel_rfl
theorem EU:mK.offset=0:=by kernel_rfl
theorem ET:(mK.name = "_")=False:=eq_false (by decide +kernel)
noncomputable def mL:Field:=match Tryz.prog.underlying 60 with | some (.struct fs)=>fs.getD 1 default | _=>default
theorem EY:mL.type=49:=by kernel_rfl
theorem EX:mL.offset=4:=by kernel_rfl
theorem EW:(mL.name = "_")=False:=eq_false (by decide +kernel)
noncomputable def mM:Field:=match Tryz.prog.underlying 60 with | some (.struct fs)=>fs.getD 2 default | _=>default
theorem E2:mM.type=9:=by kernel_rfl
theorem E1:mM.offset=5:=by kernel_rfl
theorem EZ:(mM.name = "_")=False:=eq_false (by decide +kernel)
theorem OY:az Tryz.prog 60=some ⟨.struct #[mK,mL,mM],6,96,.agg #[.string ⟨#[]⟩,.string ⟨#[]⟩,.string ⟨#[]⟩,.string ⟨#[]⟩,.string ⟨#[]⟩,.string ⟨#[]⟩],true⟩:=by kernel_rfl
theorem JQ:az Tryz.prog 61=some ⟨.array 4 3,4,32,.agg #[.int .i64 0,.int .i64 0,.int .i64 0,.int .i64 0],true⟩:=by kernel_rfl
noncomputable def mN:Field:=match Tryz.prog.underlying 63 with | some (.struct fs)=>fs.getD 0 default | _=>default
theorem E5:mN.type=61:=by kernel_rfl
theorem E4:mN.offset=0:=by kernel_rfl
theorem E3:(mN.name = "_")=False:=eq_false (by decide +kernel)
noncomputable def mO:Field:=match Tryz.prog.underlying 63 with | some (.struct fs)=>fs.getD 1 default | _=>default
theorem E8:mO.type=51:=by kernel_rfl
theorem E7:mO.offset=4:=by kernel_rfl
theorem E6:(mO.name = "_")=False:=eq_false (by decide +kernel)
theorem OZ:az Tryz.prog 63=some ⟨.struct #[mN,mO],7,80,.agg #[.int .i64 0,.int .i64 0,.int .i64 0,.int .i64 0,.string ⟨#[]⟩,.string ⟨#[]⟩,.string ⟨#[]⟩],true⟩:=by kernel_rfl
noncomputable def mP:Field:=match Tryz.prog.underlying 65 with | some (.struct fs)=>fs.getD 0 default | _=>default
theorem Fb:mP.type=3:=by kernel_rfl
theorem Fa:mP.offset=0:=by kernel_rfl
theorem E9:(mP.name = "_")=False:=eq_false (by decide +kernel)
noncomputable def mQ:Field:=match Tryz.prog.underlying 65 with | some (.struct fs)=>fs.getD 1 default | _=>default
theorem Fe:mQ.type=9:=by kernel_rfl
theorem Fd:mQ.offset=1:=by kernel_rfl
theorem Fc:(mQ.name = "_")=False:=eq_false (by decide +kernel)
noncomputable def mR:Field:=match Tryz.prog.underlying 65 with | some (.struct fs)=>fs.getD 2 default | _=>default
theorem Fh:mR.type=48:=by kernel_rfl
theorem Fg:mR.offset=2:=by kernel_rfl
theorem Ff:(mR.name = "_")=False:=eq_false (by decide +kernel)
noncomputable def mT:Field:=match Tryz.prog.underlying 65 with | some (.struct fs)=>fs.getD 3 default | _=>default
theorem Fk:mT.type=55:=by kernel_rfl
theorem Fj:mT.offset=5:=by kernel_rfl
theorem Fi:(mT.name = "_")=False:=eq_false (by decide +kernel)
noncomputable def mU:Field:=match Tryz.prog.underlying 65 with | some (.struct fs)=>fs.getD 4 default | _=>default
theorem Fo:mU.type=58:=by kernel_rfl
theorem Fn:mU.offset=12:=by kernel_rfl
theorem Fm:(mU.name = "_")=False:=eq_false (by decide +kernel)
noncomputable def mV:Field:=match Tryz.prog.underlying 65 with | some (.struct fs)=>fs.getD 5 default | _=>default
theorem Fs:mV.type=60:=by kernel_rfl
theorem Fq:mV.offset=19:=by kernel_rfl
theorem Fp:(mV.name = "_")=False:=eq_false (by decide +kernel)
noncomputable def mW:Field:=match Tryz.prog.underlying 65 with | some (.struct fs)=>fs.getD 6 default | _=>default
theorem Fv:mW.type=63:=by kernel_rfl
theorem Fu:mW.offset=25:=by kernel_rfl
theorem Ft:(mW.name = "_")=False:=eq_false (by decide +kernel)
theorem O0:az Tryz.prog 65=some ⟨.struct #[mP,mQ,mR,mT,mU,mV,mW],32,504,.agg #[.int .i64 0,.string ⟨#[]⟩,.slice none 0 0,.slice none 0 0,.slice none 0 0,.string ⟨#[]⟩,.string ⟨#[]⟩,.string ⟨#[]⟩,.string ⟨#[]⟩,.string ⟨#[]⟩,.string ⟨#[]⟩,.string ⟨#[]⟩,.string ⟨#[]⟩,.string ⟨#[]⟩,.string ⟨#[]⟩,.slice none 0 0,.string ⟨#[]⟩,.string ⟨#[]⟩,.string ⟨#[]⟩,.string ⟨#[]⟩,.string ⟨#[]⟩,.string ⟨#[]⟩,.string ⟨#[]⟩,.string ⟨#[]⟩,.string ⟨#[]⟩,.int .i64 0,.int .i64 0,.int .i64 0,.int .i64 0,.string ⟨#[]⟩,.string ⟨#[]⟩,.string ⟨#[]⟩],true⟩:=by kernel_rfl
noncomputable def jW:Field:=match Tryz.prog.underlying 110 with | some (.struct fs)=>fs.getD 0 default | _=>default
theorem BD:jW.type=49:=by kernel_rfl
theorem BC:jW.offset=0:=by kernel_rfl
theorem BB:(jW.name = "_")=False:=eq_false (by decide +kernel)
noncomputable def jX:Field:=match Tryz.prog.underlying 110 with | some (.struct fs)=>fs.getD 1 default | _=>default
theorem BG:jX.type=49:=by kernel_rfl
theorem BF:jX.offset=1:=by kernel_rfl
theorem BE:(jX.name = "_")=False:=eq_false (by decide +kernel)
theorem MN:az Tryz.prog 110=some ⟨.struct #[jW,jX],2,32,.agg #[.string ⟨#[]⟩,.string ⟨#[]⟩],true⟩:=by kernel_rfl
noncomputable def jY:Field:=match Tryz.prog.underlying 121 with | some (.struct fs)=>fs.getD 0 default | _=>default
theorem BJ:jY.type=49:=by kernel_rfl
theorem BI:jY.offset=0:=by kernel_rfl
theorem BH:(jY.name = "_")=False:=eq_false (by decide +kernel)
noncomputable def jZ:Field:=match Tryz.prog.underlying 121 with | some (.struct fs)=>fs.getD 1 default | _=>default
theorem BM:jZ.type=49:=by kernel_rfl
theorem BL:jZ.offset=1:=by kernel_rfl
theorem BK:(jZ.name = "_")=False:=eq_false (by decide +kernel)
theorem MP:az Tryz.prog 121=some ⟨.struct #[jY,jZ],2,32,.agg #[.string ⟨#[]⟩,.string ⟨#[]⟩],true⟩:=by kernel_rfl
theorem Gp:az Tryz.prog 124=some ⟨.array 3 3,3,24,.agg #[.int .i64 0,.int .i64 0,.int .i64 0],true⟩:=by kernel_rfl
theorem Gq:az Tryz.prog 143=some ⟨.array 2 3,2,16,.agg #[.int .i64 0,.int .i64 0],true⟩:=by kernel_rfl
noncomputable def j9:Field:=match Tryz.prog.underlying 281 with | some (.struct fs)=>fs.getD 0 default | _=>default
theorem BP:j9.type=4:=by kernel_rfl
theorem BO:j9.offset=0:=by kernel_rfl
theorem BN:(j9.name = "_")=False:=eq_false (by decide +kernel)
noncomputable def ka:Field:=match Tryz.prog.underlying 281 with | some (.struct fs)=>fs.getD 1 default | _=>default
theorem BS:ka.type=279:=by kernel_rfl
theorem BR:ka.offset=1:=by kernel_rfl
theorem BQ:(ka.name = "_")=False:=eq_false (by decide +kernel)
theorem MY:az Tryz.prog 281=some ⟨.struct #[j9,ka],2,32,.agg #[.bool false,.slice none 0 0],true⟩:=by kernel_rfl
attribute [simp] OB Du
attribute [simp] Dt Ds Dx Dw Dv DA Dz Dy OC DD DC DB DG
attribute [simp] DF DE OE OF OG
attribute [simp] DJ DI DH DM DL DK DP DO DN DS DR DQ DV DU DT OH
attribute [simp] DY DX DW D3 D0 DZ OK
attribute [simp] D6 D5 D4 D9 D8 D7 Ec Eb Ea OM
attribute [simp] Ef Ee Ed Ei Eh Eg El Ek Ej OR
attribute [simp] Ep Eo Em Eu Et Er Ex Ew Ev OT EA Ez
attribute [simp] Ey ED EC EB OU EG EF EE EJ EI EH OV
attribute [simp] EM EL EK EP EO EN ES ER EQ OX
attribute [simp] EV EU ET EY EX EW E2 E1 EZ OY JQ
attribute [simp] E5 E4 E3 E8 E7 E6 OZ
attribute [simp] Fb Fa E9 Fe
attribute [simp] Fd Fc Fh Fg Ff Fk Fj Fi Fo Fn Fm Fs Fq Fp Fv Fu Ft O0
attribute [simp] BD BC BB BG BF BE MN BJ
attribute [simp] BI BH BM BL BK MP Gp
attribute [simp] Gq BP BO
attribute [simp] BN BS BR BQ MY
end Go.Proofs
