/- See M58. -/
import Derived.Test.YtmhkeaphiadacaaGreatDoorM14
set_option linter.all false
namespace Go.Proofs
open Go.Eng
theorem Ox:aA Tryz.prog 23=some ⟨.array 2 22,2,2,.agg #[.int .i8 0,.int .i8 0],true⟩:=by kernel_rfl
noncomputable def ms:Field:=match Tryz.prog.underlying 25 with | some (.struct fs)=>fs.getD 0 default | _=>default
theorem CG:ms.type=5:=by kernel_rfl
theorem ET:ms.offset=0:=by kernel_rfl
theorem Gz:(ms.name = "_")=False:=eq_false (by decide +kernel)
noncomputable def my:Field:=match Tryz.prog.underlying 25 with | some (.struct fs)=>fs.getD 1 default | _=>default
theorem DD:my.type=23:=by kernel_rfl
theorem C6:my.offset=1:=by kernel_rfl
theorem FV:(my.name = "_")=False:=eq_false (by decide +kernel)
noncomputable def mm:Field:=match Tryz.prog.underlying 25 with | some (.struct fs)=>fs.getD 2 default | _=>default
theorem FS:mm.type=4:=by kernel_rfl
theorem CK:mm.offset=3:=by kernel_rfl
theorem Fo:(mm.name = "_")=False:=eq_false (by decide +kernel)
theorem O6:aA Tryz.prog 25=some ⟨.struct #[ms,my,mm],4,4,.agg #[.int .u8 0,.int .i8 0,.int .i8 0,.bool false],true⟩:=by kernel_rfl
noncomputable def mN:Field:=match Tryz.prog.underlying 28 with | some (.struct fs)=>fs.getD 0 default | _=>default
theorem Dj:mN.type=25:=by kernel_rfl
theorem DL:mN.offset=0:=by kernel_rfl
theorem E1:(mN.name = "_")=False:=eq_false (by decide +kernel)
noncomputable def ml:Field:=match Tryz.prog.underlying 28 with | some (.struct fs)=>fs.getD 1 default | _=>default
theorem EG:ml.type=26:=by kernel_rfl
theorem Fb:ml.offset=4:=by kernel_rfl
theorem G0:(ml.name = "_")=False:=eq_false (by decide +kernel)
theorem OX:aA Tryz.prog 28=some ⟨.struct #[mN,ml],5,32,.agg #[.int .u8 0,.int .i8 0,.int .i8 0,.bool false,.slice none 0 0],true⟩:=by kernel_rfl
theorem Oy:aA Tryz.prog 29=some ⟨.array 3 22,3,3,.agg #[.int .i8 0,.int .i8 0,.int .i8 0],true⟩:=by kernel_rfl
theorem OA:aA Tryz.prog 30=some ⟨.array 4 5,4,4,.agg #[.int .u8 0,.int .u8 0,.int .u8 0,.int .u8 0],true⟩:=by kernel_rfl
noncomputable def m9:Field:=match Tryz.prog.underlying 32 with | some (.struct fs)=>fs.getD 0 default | _=>default
theorem D8:m9.type=5:=by kernel_rfl
theorem Gg:m9.offset=0:=by kernel_rfl
theorem Eu:(m9.name = "_")=False:=eq_false (by decide +kernel)
noncomputable def mq:Field:=match Tryz.prog.underlying 32 with | some (.struct fs)=>fs.getD 1 default | _=>default
theorem Dq:mq.type=29:=by kernel_rfl
theorem FD:mq.offset=1:=by kernel_rfl
theorem CU:(mq.name = "_")=False:=eq_false (by decide +kernel)
noncomputable def lL:Field:=match Tryz.prog.underlying 32 with | some (.struct fs)=>fs.getD 2 default | _=>default
theorem Fc:lL.type=29:=by kernel_rfl
theorem DK:lL.offset=4:=by kernel_rfl
theorem Da:(lL.name = "_")=False:=eq_false (by decide +kernel)
noncomputable def mG:Field:=match Tryz.prog.underlying 32 with | some (.struct fs)=>fs.getD 3 default | _=>default
theorem C4:mG.type=22:=by kernel_rfl
theorem DG:mG.offset=7:=by kernel_rfl
theorem G5:(mG.name = "_")=False:=eq_false (by decide +kernel)
noncomputable def mO:Field:=match Tryz.prog.underlying 32 with | some (.struct fs)=>fs.getD 4 default | _=>default
theorem D7:mO.type=30:=by kernel_rfl
theorem EV:mO.offset=8:=by kernel_rfl
theorem Do:(mO.name = "_")=False:=eq_false (by decide +kernel)
theorem NT:aA Tryz.prog 32=some ⟨.struct #[m9,mq,lL,mG,mO],12,12,.agg #[.int .u8 0,.int .i8 0,.int .i8 0,.int .i8 0,.int .i8 0,.int .i8 0,.int .i8 0,.int .i8 0,.int .u8 0,.int .u8 0,.int .u8 0,.int .u8 0],true⟩:=by kernel_rfl
noncomputable def mx:Field:=match Tryz.prog.underlying 38 with | some (.struct fs)=>fs.getD 0 default | _=>default
theorem Cr:mx.type=35:=by kernel_rfl
theorem FJ:mx.offset=0:=by kernel_rfl
theorem Ep:(mx.name = "_")=False:=eq_false (by decide +kernel)
noncomputable def mQ:Field:=match Tryz.prog.underlying 38 with | some (.struct fs)=>fs.getD 1 default | _=>default
theorem CD:mQ.type=36:=by kernel_rfl
theorem GE:mQ.offset=1:=by kernel_rfl
theorem FR:(mQ.name = "_")=False:=eq_false (by decide +kernel)
theorem Oo:aA Tryz.prog 38=some ⟨.struct #[mx,mQ],2,48,.agg #[.slice none 0 0,.slice none 0 0],true⟩:=by kernel_rfl
noncomputable def m8:Field:=match Tryz.prog.underlying 41 with | some (.struct fs)=>fs.getD 0 default | _=>default
theorem Dg:m8.type=38:=by kernel_rfl
theorem Cz:m8.offset=0:=by kernel_rfl
theorem CC:(m8.name = "_")=False:=eq_false (by decide +kernel)
noncomputable def lS:Field:=match Tryz.prog.underlying 41 with | some (.struct fs)=>fs.getD 1 default | _=>default
theorem GO:lS.type=9:=by kernel_rfl
theorem Gr:lS.offset=2:=by kernel_rfl
theorem E5:(lS.name = "_")=False:=eq_false (by decide +kernel)
noncomputable def mX:Field:=match Tryz.prog.underlying 41 with | some (.struct fs)=>fs.getD 2 default | _=>default
theorem Fq:mX.type=39:=by kernel_rfl
theorem Er:mX.offset=3:=by kernel_rfl
theorem G3:(mX.name = "_")=False:=eq_false (by decide +kernel)
theorem O0:aA Tryz.prog 41=some ⟨.struct #[m8,lS,mX],4,88,.agg #[.slice none 0 0,.slice none 0 0,.string ⟨#[]⟩,.slice none 0 0],true⟩:=by kernel_rfl
noncomputable def mE:Field:=match Tryz.prog.underlying 48 with | some (.struct fs)=>fs.getD 0 default | _=>default
theorem ER:mE.type=44:=by kernel_rfl
theorem GI:mE.offset=0:=by kernel_rfl
theorem FY:(mE.name = "_")=False:=eq_false (by decide +kernel)
noncomputable def mT:Field:=match Tryz.prog.underlying 48 with | some (.struct fs)=>fs.getD 1 default | _=>default
theorem FN:mT.type=45:=by kernel_rfl
theorem GC:mT.offset=1:=by kernel_rfl
theorem DB:(mT.name = "_")=False:=eq_false (by decide +kernel)
noncomputable def lU:Field:=match Tryz.prog.underlying 48 with | some (.struct fs)=>fs.getD 2 default | _=>default
theorem DV:lU.type=46:=by kernel_rfl
theorem Gj:lU.offset=2:=by kernel_rfl
theorem Et:(lU.name = "_")=False:=eq_false (by decide +kernel)
theorem NN:aA Tryz.prog 48=some ⟨.struct #[mE,mT,lU],3,72,.agg #[.slice none 0 0,.slice none 0 0,.slice none 0 0],true⟩:=by kernel_rfl
noncomputable def mj:Field:=match Tryz.prog.underlying 51 with | some (.struct fs)=>fs.getD 0 default | _=>default
theorem Gf:mj.type=49:=by kernel_rfl
theorem EE:mj.offset=0:=by kernel_rfl
theorem FI:(mj.name = "_")=False:=eq_false (by decide +kernel)
noncomputable def mt:Field:=match Tryz.prog.underlying 51 with | some (.struct fs)=>fs.getD 1 default | _=>default
theorem CY:mt.type=49:=by kernel_rfl
theorem EA:mt.offset=1:=by kernel_rfl
theorem F9:(mt.name = "_")=False:=eq_false (by decide +kernel)
noncomputable def mC:Field:=match Tryz.prog.underlying 51 with | some (.struct fs)=>fs.getD 2 default | _=>default
theorem E8:mC.type=49:=by kernel_rfl
theorem Ff:mC.offset=2:=by kernel_rfl
theorem Df:(mC.name = "_")=False:=eq_false (by decide +kernel)
theorem Oe:aA Tryz.prog 51=some ⟨.struct #[mj,mt,mC],3,48,.agg #[.string ⟨#[]⟩,.string ⟨#[]⟩,.string ⟨#[]⟩],true⟩:=by kernel_rfl
noncomputable def mz:Field:=match Tryz.prog.underlying 53 with | some (.struct fs)=>fs.getD 0 default | _=>default
theorem CI:mz.type=51:=by kernel_rfl
theorem Dh:mz.offset=0:=by kernel_rfl
theorem C5:(mz.name = "_")=False:=eq_false (by decide +kernel)
noncomputable def mw:Field:=match Tryz.prog.underlying 53 with | some (.struct fs)=>fs.getD 1 default | _=>default
theorem DS:mw.type=49:=by kernel_rfl
theorem EB:mw.offset=3:=by kernel_rfl
theorem Ej:(mw.name = "_")=False:=eq_false (by decide +kernel)
theorem N6:aA Tryz.prog 53=some ⟨.struct #[mz,mw],4,64,.agg #[.string ⟨#[]⟩,.string ⟨#[]⟩,.string ⟨#[]⟩,.string ⟨#[]⟩],true⟩:=by kernel_rfl
noncomputable def mV:Field:=match Tryz.prog.underlying 55 with | some (.struct fs)=>fs.getD 0 default | _=>default
theorem C9:mV.type=53:=by kernel_rfl
theorem F8:mV.offset=0:=by kernel_rfl
theorem Cq:(mV.name = "_")=False:=eq_false (by decide +kernel)
noncomputable def mM:Field:=match Tryz.prog.underlying 55 with | some (.struct fs)=>fs.getD 1 default | _=>default
theorem EU:mM.type=51:=by kernel_rfl
theorem DF:mM.offset=4:=by kernel_rfl
theorem Dr:(mM.name = "_")=False:=eq_false (by decide +kernel)
theorem NR:aA Tryz.prog 55=some ⟨.struct #[mV,mM],7,112,.agg #[.string ⟨#[]⟩,.string ⟨#[]⟩,.string ⟨#[]⟩,.string ⟨#[]⟩,.string ⟨#[]⟩,.string ⟨#[]⟩,.string ⟨#[]⟩],true⟩:=by kernel_rfl
noncomputable def md:Field:=match Tryz.prog.underlying 58 with | some (.struct fs)=>fs.getD 0 default | _=>default
theorem CS:md.type=51:=by kernel_rfl
theorem F6:md.offset=0:=by kernel_rfl
theorem GF:(md.name = "_")=False:=eq_false (by decide +kernel)
noncomputable def mW:Field:=match Tryz.prog.underlying 58 with | some (.struct fs)=>fs.getD 1 default | _=>default
theorem CV:mW.type=56:=by kernel_rfl
theorem FE:mW.offset=3:=by kernel_rfl
theorem DO:(mW.name = "_")=False:=eq_false (by decide +kernel)
noncomputable def m7:Field:=match Tryz.prog.underlying 58 with | some (.struct fs)=>fs.getD 2 default | _=>default
theorem D5:m7.type=51:=by kernel_rfl
theorem CP:m7.offset=4:=by kernel_rfl
theorem DN:(m7.name = "_")=False:=eq_false (by decide +kernel)
theorem OJ:aA Tryz.prog 58=some ⟨.struct #[md,mW,m7],7,120,.agg #[.string ⟨#[]⟩,.string ⟨#[]⟩,.string ⟨#[]⟩,.slice none 0 0,.string ⟨#[]⟩,.string ⟨#[]⟩,.string ⟨#[]⟩],true⟩:=by kernel_rfl
noncomputable def mB:Field:=match Tryz.prog.underlying 60 with | some (.struct fs)=>fs.getD 0 default | _=>default
theorem Eh:mB.type=53:=by kernel_rfl
theorem FM:mB.offset=0:=by kernel_rfl
theorem Fz:(mB.name = "_")=False:=eq_false (by decide +kernel)
noncomputable def mh:Field:=match Tryz.prog.underlying 60 with | some (.struct fs)=>fs.getD 1 default | _=>default
theorem Fp:mh.type=49:=by kernel_rfl
theorem CN:mh.offset=4:=by kernel_rfl
theorem GG:(mh.name = "_")=False:=eq_false (by decide +kernel)
noncomputable def mL:Field:=match Tryz.prog.underlying 60 with | some (.struct fs)=>fs.getD 2 default | _=>default
theorem CF:mL.type=9:=by kernel_rfl
theorem C8:mL.offset=5:=by kernel_rfl
theorem Cx:(mL.name = "_")=False:=eq_false (by decide +kernel)
theorem NP:aA Tryz.prog 60=some ⟨.struct #[mB,mh,mL],6,96,.agg #[.string ⟨#[]⟩,.string ⟨#[]⟩,.string ⟨#[]⟩,.string ⟨#[]⟩,.string ⟨#[]⟩,.string ⟨#[]⟩],true⟩:=by kernel_rfl
theorem Jt:aA Tryz.prog 61=some ⟨.array 4 3,4,32,.agg #[.int .i64 0,.int .i64 0,.int .i64 0,.int .i64 0],true⟩:=by kernel_rfl
noncomputable def m5:Field:=match Tryz.prog.underlying 63 with | some (.struct fs)=>fs.getD 0 default | _=>default
theorem CO:m5.type=61:=by kernel_rfl
theorem EI:m5.offset=0:=by kernel_rfl
theorem CL:(m5.name = "_")=False:=eq_false (by decide +kernel)
noncomputable def mJ:Field:=match Tryz.prog.underlying 63 with | some (.struct fs)=>fs.getD 1 default | _=>default
theorem Fh:mJ.type=51:=by kernel_rfl
theorem Dm:mJ.offset=4:=by kernel_rfl
theorem CH:(mJ.name = "_")=False:=eq_false (by decide +kernel)
theorem Pe:aA Tryz.prog 63=some ⟨.struct #[m5,mJ],7,80,.agg #[.int .i64 0,.int .i64 0,.int .i64 0,.int .i64 0,.string ⟨#[]⟩,.string ⟨#[]⟩,.string ⟨#[]⟩],true⟩:=by kernel_rfl
noncomputable def nf:Field:=match Tryz.prog.underlying 65 with | some (.struct fs)=>fs.getD 0 default | _=>default
theorem D3:nf.type=3:=by kernel_rfl
theorem Cu:nf.offset=0:=by kernel_rfl
theorem Ei:(nf.name = "_")=False:=eq_false (by decide +kernel)
noncomputable def lK:Field:=match Tryz.prog.underlying 65 with | some (.struct fs)=>fs.getD 1 default | _=>default
theorem EO:lK.type=9:=by kernel_rfl
theorem EY:lK.offset=1:=by kernel_rfl
theorem Dz:(lK.name = "_")=False:=eq_false (by decide +kernel)
noncomputable def mr:Field:=match Tryz.prog.underlying 65 with | some (.struct fs)=>fs.getD 2 default | _=>default
theorem ED:mr.type=48:=by kernel_rfl
theorem FB:mr.offset=2:=by kernel_rfl
theorem CB:(mr.name = "_")=False:=eq_false (by decide +kernel)
noncomputable def lR:Field:=match Tryz.prog.underlying 65 with | some (.struct fs)=>fs.getD 3 default | _=>default
theorem Cw:lR.type=55:=by kernel_rfl
theorem EM:lR.offset=5:=by kernel_rfl
theorem Fw:(lR.name = "_")=False:=eq_false (by decide +kernel)
noncomputable def lX:Field:=match Tryz.prog.underlying 65 with | some (.struct fs)=>fs.getD 4 default | _=>default
theorem Fj:lX.type=58:=by kernel_rfl
theorem GU:lX.offset=12:=by kernel_rfl
theorem Fv:(lX.name = "_")=False:=eq_false (by decide +kernel)
noncomputable def mK:Field:=match Tryz.prog.underlying 65 with | some (.struct fs)=>fs.getD 5 default | _=>default
theorem GY:mK.type=60:=by kernel_rfl
theorem Ck:mK.offset=19:=by kernel_rfl
theorem GZ:(mK.name = "_")=False:=eq_false (by decide +kernel)
noncomputable def ma:Field:=match Tryz.prog.underlying 65 with | some (.struct fs)=>fs.getD 6 default | _=>default
theorem E9:ma.type=63:=by kernel_rfl
theorem EQ:ma.offset=25:=by kernel_rfl
theorem Eg:(ma.name = "_")=False:=eq_false (by decide +kernel)
theorem Pd:aA Tryz.prog 65=some ⟨.struct #[nf,lK,mr,lR,lX,mK,ma],32,504,.agg #[.int .i64 0,.string ⟨#[]⟩,.slice none 0 0,.slice none 0 0,.slice none 0 0,.string ⟨#[]⟩,.string ⟨#[]⟩,.string ⟨#[]⟩,.string ⟨#[]⟩,.string ⟨#[]⟩,.string ⟨#[]⟩,.string ⟨#[]⟩,.string ⟨#[]⟩,.string ⟨#[]⟩,.string ⟨#[]⟩,.slice none 0 0,.string ⟨#[]⟩,.string ⟨#[]⟩,.string ⟨#[]⟩,.string ⟨#[]⟩,.string ⟨#[]⟩,.string ⟨#[]⟩,.string ⟨#[]⟩,.string ⟨#[]⟩,.string ⟨#[]⟩,.int .i64 0,.int .i64 0,.int .i64 0,.int .i64 0,.string ⟨#[]⟩,.string ⟨#[]⟩,.string ⟨#[]⟩],true⟩:=by kernel_rfl
noncomputable def kf:Field:=match Tryz.prog.underlying 110 with | some (.struct fs)=>fs.getD 0 default | _=>default
theorem A9:kf.type=49:=by kernel_rfl
theorem Bg:kf.offset=0:=by kernel_rfl
theorem Ch:(kf.name = "_")=False:=eq_false (by decide +kernel)
noncomputable def jN:Field:=match Tryz.prog.underlying 110 with | some (.struct fs)=>fs.getD 1 default | _=>default
theorem Bm:jN.type=49:=by kernel_rfl
theorem BE:jN.offset=1:=by kernel_rfl
theorem BP:(jN.name = "_")=False:=eq_false (by decide +kernel)
theorem LG:aA Tryz.prog 110=some ⟨.struct #[kf,jN],2,32,.agg #[.string ⟨#[]⟩,.string ⟨#[]⟩],true⟩:=by kernel_rfl
noncomputable def j9:Field:=match Tryz.prog.underlying 121 with | some (.struct fs)=>fs.getD 0 default | _=>default
theorem Ca:j9.type=49:=by kernel_rfl
theorem AY:j9.offset=0:=by kernel_rfl
theorem Bn:(j9.name = "_")=False:=eq_false (by decide +kernel)
noncomputable def jF:Field:=match Tryz.prog.underlying 121 with | some (.struct fs)=>fs.getD 1 default | _=>default
theorem B7:jF.type=49:=by kernel_rfl
theorem AU:jF.offset=1:=by kernel_rfl
theorem BC:(jF.name = "_")=False:=eq_false (by decide +kernel)
theorem M3:aA Tryz.prog 121=some ⟨.struct #[j9,jF],2,32,.agg #[.string ⟨#[]⟩,.string ⟨#[]⟩],true⟩:=by kernel_rfl
theorem Ft:aA Tryz.prog 124=some ⟨.array 3 3,3,24,.agg #[.int .i64 0,.int .i64 0,.int .i64 0],true⟩:=by kernel_rfl
theorem DX:aA Tryz.prog 143=some ⟨.array 2 3,2,16,.agg #[.int .i64 0,.int .i64 0],true⟩:=by kernel_rfl
noncomputable def jG:Field:=match Tryz.prog.underlying 281 with | some (.struct fs)=>fs.getD 0 default | _=>default
theorem BL:jG.type=4:=by kernel_rfl
theorem Cf:jG.offset=0:=by kernel_rfl
theorem BY:(jG.name = "_")=False:=eq_false (by decide +kernel)
noncomputable def jA:Field:=match Tryz.prog.underlying 281 with | some (.struct fs)=>fs.getD 1 default | _=>default
theorem BD:jA.type=279:=by kernel_rfl
theorem Cc:jA.offset=1:=by kernel_rfl
theorem Bp:(jA.name = "_")=False:=eq_false (by decide +kernel)
theorem Md:aA Tryz.prog 281=some ⟨.struct #[jG,jA],2,32,.agg #[.bool false,.slice none 0 0],true⟩:=by kernel_rfl
attribute [simp] Ox CG
attribute [simp] ET Gz DD C6 FV FS CK Fo O6 Dj DL E1 EG
attribute [simp] Fb G0 OX Oy OA
attribute [simp] D8 Gg Eu Dq FD CU Fc DK Da C4 DG G5 D7 EV Do NT
attribute [simp] Cr FJ Ep CD GE FR Oo
attribute [simp] Dg Cz CC GO Gr E5 Fq Er G3 O0
attribute [simp] ER GI FY FN GC DB DV Gj Et NN
attribute [simp] Gf EE FI CY EA F9 E8 Ff Df Oe CI Dh
attribute [simp] C5 DS EB Ej N6 C9 F8 Cq EU DF Dr NR
attribute [simp] CS F6 GF CV FE DO D5 CP DN OJ
attribute [simp] Eh FM Fz Fp CN GG CF C8 Cx NP Jt
attribute [simp] CO EI CL Fh Dm CH Pe
attribute [simp] D3 Cu Ei EO
attribute [simp] EY Dz ED FB CB Cw EM Fw Fj GU Fv GY Ck GZ E9 EQ Eg Pd
attribute [simp] A9 Bg Ch Bm BE BP LG Ca
attribute [simp] AY Bn B7 AU BC M3 Ft
attribute [simp] DX BL Cf
attribute [simp] BY BD Cc Bp Md
end Go.Proofs
