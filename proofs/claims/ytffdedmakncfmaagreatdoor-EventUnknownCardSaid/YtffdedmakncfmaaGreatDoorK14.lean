/- See K51. -/
import Derived.Test.YtffdedmakncfmaaGreatDoorK12
import Derived.Test.YtffdedmakncfmaaGreatDoorK13
import Derived.Shelf.Strings.Builder1
set_option linter.all false
namespace Go.Proofs
open Go.Eng
theorem O2:aO Tryz.prog 23=some ⟨.array 2 22,2,2,.agg #[.int .i8 0,.int .i8 0],true⟩:=by kernel_rfl
noncomputable def qE:Field:=match Tryz.prog.underlying 25 with | some (.struct fs)=>fs.getD 0 default | _=>default
theorem Eg:qE.type=5:=by kernel_rfl
theorem Ef:qE.offset=0:=by kernel_rfl
noncomputable def qG:Field:=match Tryz.prog.underlying 25 with | some (.struct fs)=>fs.getD 1 default | _=>default
theorem Ei:qG.type=23:=by kernel_rfl
theorem Eh:qG.offset=1:=by kernel_rfl
noncomputable def qI:Field:=match Tryz.prog.underlying 25 with | some (.struct fs)=>fs.getD 2 default | _=>default
theorem Ek:qI.type=4:=by kernel_rfl
theorem Ej:qI.offset=3:=by kernel_rfl
theorem O3:aO Tryz.prog 25=some ⟨.struct #[qE,qG,qI],4,4,.agg #[.int .u8 0,.int .i8 0,.int .i8 0,.bool false],true⟩:=by kernel_rfl
theorem O4:aO Tryz.prog 26=some ⟨.array 6 22,6,6,.agg #[.int .i8 0,.int .i8 0,.int .i8 0,.int .i8 0,.int .i8 0,.int .i8 0],true⟩:=by kernel_rfl
noncomputable def qJ:Field:=match Tryz.prog.underlying 28 with | some (.struct fs)=>fs.getD 0 default | _=>default
theorem Em:qJ.type=26:=by kernel_rfl
theorem El:qJ.offset=0:=by kernel_rfl
noncomputable def qL:Field:=match Tryz.prog.underlying 28 with | some (.struct fs)=>fs.getD 1 default | _=>default
theorem Ep:qL.type=4:=by kernel_rfl
theorem Eo:qL.offset=6:=by kernel_rfl
theorem O5:aO Tryz.prog 28=some ⟨.struct #[qJ,qL],7,7,.agg #[.int .i8 0,.int .i8 0,.int .i8 0,.int .i8 0,.int .i8 0,.int .i8 0,.bool false],true⟩:=by kernel_rfl
theorem O6:aO Tryz.prog 29=some ⟨.array 2 28,14,14,.agg #[.int .i8 0,.int .i8 0,.int .i8 0,.int .i8 0,.int .i8 0,.int .i8 0,.bool false,.int .i8 0,.int .i8 0,.int .i8 0,.int .i8 0,.int .i8 0,.int .i8 0,.bool false],true⟩:=by kernel_rfl
theorem O7:aO Tryz.prog 30=some ⟨.array 8 22,8,8,.agg #[.int .i8 0,.int .i8 0,.int .i8 0,.int .i8 0,.int .i8 0,.int .i8 0,.int .i8 0,.int .i8 0],true⟩:=by kernel_rfl
theorem O8:aO Tryz.prog 32=some ⟨.array 4 22,4,4,.agg #[.int .i8 0,.int .i8 0,.int .i8 0,.int .i8 0],true⟩:=by kernel_rfl
noncomputable def qM:Field:=match Tryz.prog.underlying 34 with | some (.struct fs)=>fs.getD 0 default | _=>default
theorem Et:qM.type=5:=by kernel_rfl
theorem Er:qM.offset=0:=by kernel_rfl
noncomputable def qN:Field:=match Tryz.prog.underlying 34 with | some (.struct fs)=>fs.getD 1 default | _=>default
theorem Ev:qN.type=28:=by kernel_rfl
theorem Eu:qN.offset=1:=by kernel_rfl
noncomputable def qO:Field:=match Tryz.prog.underlying 34 with | some (.struct fs)=>fs.getD 2 default | _=>default
theorem Ex:qO.type=29:=by kernel_rfl
theorem Ew:qO.offset=8:=by kernel_rfl
noncomputable def qP:Field:=match Tryz.prog.underlying 34 with | some (.struct fs)=>fs.getD 3 default | _=>default
theorem Ez:qP.type=30:=by kernel_rfl
theorem Ey:qP.offset=22:=by kernel_rfl
noncomputable def qQ:Field:=match Tryz.prog.underlying 34 with | some (.struct fs)=>fs.getD 4 default | _=>default
theorem EB:qQ.type=32:=by kernel_rfl
theorem EA:qQ.offset=30:=by kernel_rfl
theorem O9:aO Tryz.prog 34=some ⟨.struct #[qM,qN,qO,qP,qQ],34,34,.agg #[.int .u8 0,.int .i8 0,.int .i8 0,.int .i8 0,.int .i8 0,.int .i8 0,.int .i8 0,.bool false,.int .i8 0,.int .i8 0,.int .i8 0,.int .i8 0,.int .i8 0,.int .i8 0,.bool false,.int .i8 0,.int .i8 0,.int .i8 0,.int .i8 0,.int .i8 0,.int .i8 0,.bool false,.int .i8 0,.int .i8 0,.int .i8 0,.int .i8 0,.int .i8 0,.int .i8 0,.int .i8 0,.int .i8 0,.int .i8 0,.int .i8 0,.int .i8 0,.int .i8 0],true⟩:=by kernel_rfl
noncomputable def qR:Field:=match Tryz.prog.underlying 44 with | some (.struct fs)=>fs.getD 0 default | _=>default
theorem ED:qR.type=41:=by kernel_rfl
theorem EC:qR.offset=0:=by kernel_rfl
noncomputable def qT:Field:=match Tryz.prog.underlying 44 with | some (.struct fs)=>fs.getD 1 default | _=>default
theorem EF:qT.type=42:=by kernel_rfl
theorem EE:qT.offset=1:=by kernel_rfl
theorem Pc:aO Tryz.prog 44=some ⟨.struct #[qR,qT],2,48,.agg #[.slice none 0 0,.slice none 0 0],true⟩:=by kernel_rfl
noncomputable def qU:Field:=match Tryz.prog.underlying 51 with | some (.struct fs)=>fs.getD 0 default | _=>default
theorem EH:qU.type=47:=by kernel_rfl
theorem EG:qU.offset=0:=by kernel_rfl
noncomputable def qV:Field:=match Tryz.prog.underlying 51 with | some (.struct fs)=>fs.getD 1 default | _=>default
theorem EJ:qV.type=48:=by kernel_rfl
theorem EI:qV.offset=1:=by kernel_rfl
noncomputable def qW:Field:=match Tryz.prog.underlying 51 with | some (.struct fs)=>fs.getD 2 default | _=>default
theorem EL:qW.type=49:=by kernel_rfl
theorem EK:qW.offset=2:=by kernel_rfl
theorem Ph:aO Tryz.prog 51=some ⟨.struct #[qU,qV,qW],3,72,.agg #[.slice none 0 0,.slice none 0 0,.slice none 0 0],true⟩:=by kernel_rfl
noncomputable def ly:Field:=match Tryz.prog.underlying 54 with | some (.struct fs)=>fs.getD 0 default | _=>default
theorem EO:ly.type=52:=by kernel_rfl
theorem EN:ly.offset=0:=by kernel_rfl
theorem EM:(ly.name = "_")=False:=eq_false (by decide +kernel)
noncomputable def lz:Field:=match Tryz.prog.underlying 54 with | some (.struct fs)=>fs.getD 1 default | _=>default
theorem ES:lz.type=52:=by kernel_rfl
theorem ER:lz.offset=1:=by kernel_rfl
theorem EP:(lz.name = "_")=False:=eq_false (by decide +kernel)
noncomputable def lK:Field:=match Tryz.prog.underlying 54 with | some (.struct fs)=>fs.getD 2 default | _=>default
theorem EV:lK.type=52:=by kernel_rfl
theorem EU:lK.offset=2:=by kernel_rfl
theorem ET:(lK.name = "_")=False:=eq_false (by decide +kernel)
theorem Pk:aO Tryz.prog 54=some ⟨.struct #[ly,lz,lK],3,48,.agg #[.string ⟨#[]⟩,.string ⟨#[]⟩,.string ⟨#[]⟩],true⟩:=by kernel_rfl
noncomputable def lL:Field:=match Tryz.prog.underlying 56 with | some (.struct fs)=>fs.getD 0 default | _=>default
theorem EY:lL.type=54:=by kernel_rfl
theorem EX:lL.offset=0:=by kernel_rfl
theorem EW:(lL.name = "_")=False:=eq_false (by decide +kernel)
noncomputable def lM:Field:=match Tryz.prog.underlying 56 with | some (.struct fs)=>fs.getD 1 default | _=>default
theorem E4:lM.type=52:=by kernel_rfl
theorem E3:lM.offset=3:=by kernel_rfl
theorem EZ:(lM.name = "_")=False:=eq_false (by decide +kernel)
theorem Pl:aO Tryz.prog 56=some ⟨.struct #[lL,lM],4,64,.agg #[.string ⟨#[]⟩,.string ⟨#[]⟩,.string ⟨#[]⟩,.string ⟨#[]⟩],true⟩:=by kernel_rfl
noncomputable def lN:Field:=match Tryz.prog.underlying 58 with | some (.struct fs)=>fs.getD 0 default | _=>default
theorem E7:lN.type=56:=by kernel_rfl
theorem E6:lN.offset=0:=by kernel_rfl
theorem E5:(lN.name = "_")=False:=eq_false (by decide +kernel)
noncomputable def lO:Field:=match Tryz.prog.underlying 58 with | some (.struct fs)=>fs.getD 1 default | _=>default
theorem Fa:lO.type=54:=by kernel_rfl
theorem E9:lO.offset=4:=by kernel_rfl
theorem E8:(lO.name = "_")=False:=eq_false (by decide +kernel)
theorem Pm:aO Tryz.prog 58=some ⟨.struct #[lN,lO],7,112,.agg #[.string ⟨#[]⟩,.string ⟨#[]⟩,.string ⟨#[]⟩,.string ⟨#[]⟩,.string ⟨#[]⟩,.string ⟨#[]⟩,.string ⟨#[]⟩],true⟩:=by kernel_rfl
noncomputable def qX:Field:=match Tryz.prog.underlying 61 with | some (.struct fs)=>fs.getD 0 default | _=>default
theorem Fc:qX.type=54:=by kernel_rfl
theorem Fb:qX.offset=0:=by kernel_rfl
noncomputable def qY:Field:=match Tryz.prog.underlying 61 with | some (.struct fs)=>fs.getD 1 default | _=>default
theorem Ff:qY.type=59:=by kernel_rfl
theorem Fe:qY.offset=3:=by kernel_rfl
noncomputable def qZ:Field:=match Tryz.prog.underlying 61 with | some (.struct fs)=>fs.getD 2 default | _=>default
theorem Fh:qZ.type=54:=by kernel_rfl
theorem Fg:qZ.offset=4:=by kernel_rfl
theorem Po:aO Tryz.prog 61=some ⟨.struct #[qX,qY,qZ],7,120,.agg #[.string ⟨#[]⟩,.string ⟨#[]⟩,.string ⟨#[]⟩,.slice none 0 0,.string ⟨#[]⟩,.string ⟨#[]⟩,.string ⟨#[]⟩],true⟩:=by kernel_rfl
noncomputable def lP:Field:=match Tryz.prog.underlying 63 with | some (.struct fs)=>fs.getD 0 default | _=>default
theorem Fk:lP.type=56:=by kernel_rfl
theorem Fj:lP.offset=0:=by kernel_rfl
theorem Fi:(lP.name = "_")=False:=eq_false (by decide +kernel)
noncomputable def lQ:Field:=match Tryz.prog.underlying 63 with | some (.struct fs)=>fs.getD 1 default | _=>default
theorem Fo:lQ.type=52:=by kernel_rfl
theorem Fm:lQ.offset=4:=by kernel_rfl
theorem Fl:(lQ.name = "_")=False:=eq_false (by decide +kernel)
noncomputable def lR:Field:=match Tryz.prog.underlying 63 with | some (.struct fs)=>fs.getD 2 default | _=>default
theorem Fs:lR.type=9:=by kernel_rfl
theorem Fq:lR.offset=5:=by kernel_rfl
theorem Fp:(lR.name = "_")=False:=eq_false (by decide +kernel)
theorem Pp:aO Tryz.prog 63=some ⟨.struct #[lP,lQ,lR],6,96,.agg #[.string ⟨#[]⟩,.string ⟨#[]⟩,.string ⟨#[]⟩,.string ⟨#[]⟩,.string ⟨#[]⟩,.string ⟨#[]⟩],true⟩:=by kernel_rfl
theorem Cp:aO Tryz.prog 64=some ⟨.array 4 3,4,32,.agg #[.int .i64 0,.int .i64 0,.int .i64 0,.int .i64 0],true⟩:=by kernel_rfl
noncomputable def lU:Field:=match Tryz.prog.underlying 66 with | some (.struct fs)=>fs.getD 0 default | _=>default
theorem Fw:lU.type=64:=by kernel_rfl
theorem Fv:lU.offset=0:=by kernel_rfl
theorem Ft:(lU.name = "_")=False:=eq_false (by decide +kernel)
noncomputable def lV:Field:=match Tryz.prog.underlying 66 with | some (.struct fs)=>fs.getD 1 default | _=>default
theorem Fz:lV.type=54:=by kernel_rfl
theorem Fy:lV.offset=4:=by kernel_rfl
theorem Fx:(lV.name = "_")=False:=eq_false (by decide +kernel)
theorem Pq:aO Tryz.prog 66=some ⟨.struct #[lU,lV],7,80,.agg #[.int .i64 0,.int .i64 0,.int .i64 0,.int .i64 0,.string ⟨#[]⟩,.string ⟨#[]⟩,.string ⟨#[]⟩],true⟩:=by kernel_rfl
noncomputable def ra:Field:=match Tryz.prog.underlying 68 with | some (.struct fs)=>fs.getD 0 default | _=>default
theorem FB:ra.type=3:=by kernel_rfl
theorem FA:ra.offset=0:=by kernel_rfl
noncomputable def rb:Field:=match Tryz.prog.underlying 68 with | some (.struct fs)=>fs.getD 1 default | _=>default
theorem FD:rb.type=9:=by kernel_rfl
theorem FC:rb.offset=1:=by kernel_rfl
noncomputable def re:Field:=match Tryz.prog.underlying 68 with | some (.struct fs)=>fs.getD 2 default | _=>default
theorem FF:re.type=51:=by kernel_rfl
theorem FE:re.offset=2:=by kernel_rfl
noncomputable def rf:Field:=match Tryz.prog.underlying 68 with | some (.struct fs)=>fs.getD 3 default | _=>default
theorem FH:rf.type=58:=by kernel_rfl
theorem FG:rf.offset=5:=by kernel_rfl
noncomputable def rh:Field:=match Tryz.prog.underlying 68 with | some (.struct fs)=>fs.getD 4 default | _=>default
theorem FJ:rh.type=61:=by kernel_rfl
theorem FI:rh.offset=12:=by kernel_rfl
noncomputable def rl:Field:=match Tryz.prog.underlying 68 with | some (.struct fs)=>fs.getD 5 default | _=>default
theorem FL:rl.type=63:=by kernel_rfl
theorem FK:rl.offset=19:=by kernel_rfl
noncomputable def rn:Field:=match Tryz.prog.underlying 68 with | some (.struct fs)=>fs.getD 6 default | _=>default
theorem FN:rn.type=66:=by kernel_rfl
theorem FM:rn.offset=25:=by kernel_rfl
theorem Pr:aO Tryz.prog 68=some ⟨.struct #[ra,rb,re,rf,rh,rl,rn],32,504,.agg #[.int .i64 0,.string ⟨#[]⟩,.slice none 0 0,.slice none 0 0,.slice none 0 0,.string ⟨#[]⟩,.string ⟨#[]⟩,.string ⟨#[]⟩,.string ⟨#[]⟩,.string ⟨#[]⟩,.string ⟨#[]⟩,.string ⟨#[]⟩,.string ⟨#[]⟩,.string ⟨#[]⟩,.string ⟨#[]⟩,.slice none 0 0,.string ⟨#[]⟩,.string ⟨#[]⟩,.string ⟨#[]⟩,.string ⟨#[]⟩,.string ⟨#[]⟩,.string ⟨#[]⟩,.string ⟨#[]⟩,.string ⟨#[]⟩,.string ⟨#[]⟩,.int .i64 0,.int .i64 0,.int .i64 0,.int .i64 0,.string ⟨#[]⟩,.string ⟨#[]⟩,.string ⟨#[]⟩],true⟩:=by kernel_rfl
theorem Ps:aO Tryz.prog 78=some ⟨.array 3 54,9,144,.agg #[.string ⟨#[]⟩,.string ⟨#[]⟩,.string ⟨#[]⟩,.string ⟨#[]⟩,.string ⟨#[]⟩,.string ⟨#[]⟩,.string ⟨#[]⟩,.string ⟨#[]⟩,.string ⟨#[]⟩],true⟩:=by kernel_rfl
noncomputable def rq:Field:=match Tryz.prog.underlying 80 with | some (.struct fs)=>fs.getD 0 default | _=>default
theorem FP:rq.type=78:=by kernel_rfl
theorem FO:rq.offset=0:=by kernel_rfl
noncomputable def ru:Field:=match Tryz.prog.underlying 80 with | some (.struct fs)=>fs.getD 1 default | _=>default
theorem FR:ru.type=54:=by kernel_rfl
theorem FQ:ru.offset=9:=by kernel_rfl
theorem Pt:aO Tryz.prog 80=some ⟨.struct #[rq,ru],12,192,.agg #[.string ⟨#[]⟩,.string ⟨#[]⟩,.string ⟨#[]⟩,.string ⟨#[]⟩,.string ⟨#[]⟩,.string ⟨#[]⟩,.string ⟨#[]⟩,.string ⟨#[]⟩,.string ⟨#[]⟩,.string ⟨#[]⟩,.string ⟨#[]⟩,.string ⟨#[]⟩],true⟩:=by kernel_rfl
noncomputable def lW:Field:=match Tryz.prog.underlying 91 with | some (.struct fs)=>fs.getD 0 default | _=>default
theorem FV:lW.type=52:=by kernel_rfl
theorem FU:lW.offset=0:=by kernel_rfl
theorem FT:(lW.name = "_")=False:=eq_false (by decide +kernel)
noncomputable def lX:Field:=match Tryz.prog.underlying 91 with | some (.struct fs)=>fs.getD 1 default | _=>default
theorem FY:lX.type=52:=by kernel_rfl
theorem FX:lX.offset=1:=by kernel_rfl
theorem FW:(lX.name = "_")=False:=eq_false (by decide +kernel)
theorem Pv:aO Tryz.prog 91=some ⟨.struct #[lW,lX],2,32,.agg #[.string ⟨#[]⟩,.string ⟨#[]⟩],true⟩:=by kernel_rfl
noncomputable def jN:Field:=match Tryz.prog.underlying 100 with | some (.struct fs)=>fs.getD 0 default | _=>default
theorem BZ:jN.type=52:=by kernel_rfl
theorem BY:jN.offset=0:=by kernel_rfl
theorem BX:(jN.name = "_")=False:=eq_false (by decide +kernel)
noncomputable def jO:Field:=match Tryz.prog.underlying 100 with | some (.struct fs)=>fs.getD 1 default | _=>default
theorem B5:jO.type=52:=by kernel_rfl
theorem B4:jO.offset=1:=by kernel_rfl
theorem B0:(jO.name = "_")=False:=eq_false (by decide +kernel)
theorem MX:aO Tryz.prog 100=some ⟨.struct #[jN,jO],2,32,.agg #[.string ⟨#[]⟩,.string ⟨#[]⟩],true⟩:=by kernel_rfl
theorem Gg:aO Tryz.prog 102=some ⟨.array 2 3,2,16,.agg #[.int .i64 0,.int .i64 0],true⟩:=by kernel_rfl
theorem MY:aO Tryz.prog 122=some ⟨.array 3 52,3,48,.agg #[.string ⟨#[]⟩,.string ⟨#[]⟩,.string ⟨#[]⟩],true⟩:=by kernel_rfl
theorem MZ:aO Tryz.prog 133=some ⟨.array 3 52,3,48,.agg #[.string ⟨#[]⟩,.string ⟨#[]⟩,.string ⟨#[]⟩],true⟩:=by kernel_rfl
theorem M1:aO Tryz.prog 135=some ⟨.array 3 133,9,144,.agg #[.string ⟨#[]⟩,.string ⟨#[]⟩,.string ⟨#[]⟩,.string ⟨#[]⟩,.string ⟨#[]⟩,.string ⟨#[]⟩,.string ⟨#[]⟩,.string ⟨#[]⟩,.string ⟨#[]⟩],true⟩:=by kernel_rfl
theorem M2:aO Tryz.prog 150=some ⟨.array 3 3,3,24,.agg #[.int .i64 0,.int .i64 0,.int .i64 0],true⟩:=by kernel_rfl
theorem M4:aO Tryz.prog 151=some ⟨.array 3 3,3,24,.agg #[.int .i64 0,.int .i64 0,.int .i64 0],true⟩:=by kernel_rfl
noncomputable def nQ:Field:=match Tryz.prog.underlying 208 with | some (.struct fs)=>fs.getD 0 default | _=>default
theorem B7:nQ.type=4:=by kernel_rfl
theorem B6:nQ.offset=0:=by kernel_rfl
noncomputable def nS:Field:=match Tryz.prog.underlying 208 with | some (.struct fs)=>fs.getD 1 default | _=>default
theorem B9:nS.type=206:=by kernel_rfl
theorem B8:nS.offset=1:=by kernel_rfl
theorem M8:aO Tryz.prog 208=some ⟨.struct #[nQ,nS],2,32,.agg #[.bool false,.slice none 0 0],true⟩:=by kernel_rfl
noncomputable def vp:Field:=match Tryz.prog.underlying 253 with | some (.struct fs)=>fs.getD 0 default | _=>default
theorem Ca:vp.type=250:=by kernel_rfl
noncomputable def nT:Field:=match Tryz.prog.underlying 253 with | some (.struct fs)=>fs.getD 1 default | _=>default
theorem Cc:nT.type=251:=by kernel_rfl
theorem Cb:nT.offset=1:=by kernel_rfl
theorem Nf:aO Tryz.prog 253=some ⟨.struct #[vp,nT],2,32,.agg #[.pointer none,.slice none 0 0],true⟩:=by kernel_rfl
attribute [simp] O2 Eg
attribute [simp] Ef Ei Eh Ek Ej O3 O4 Em El
attribute [simp] Ep Eo O5 O6 O7 O8
attribute [simp] Et Er Ev Eu Ex Ew Ez Ey EB EA O9
attribute [simp] ED EC EF EE Pc
attribute [simp] EH EG EJ EI EL EK Ph
attribute [simp] EO EN EM ES ER EP EV EU ET Pk EY EX EW
attribute [simp] E4 E3 EZ Pl E7 E6 E5 Fa E9 E8 Pm
attribute [simp] Fc Fb Ff Fe Fh Fg Po
attribute [simp] Fk Fj Fi Fo Fm Fl Fs Fq Fp Pp Cp
attribute [simp] Fw Fv Ft Fz Fy Fx Pq
attribute [simp] FB FA FD FC
attribute [simp] FF FE FH FG FJ FI FL FK FN FM Pr Ps
attribute [simp] FP FO FR FQ Pt FV
attribute [simp] FU FT FY FX FW Pv BZ BY BX B5 B4 B0 MX
attribute [simp] Gg MY MZ M1 M2 M4 B7 B6 B9 B8
attribute [simp] M8 Ca Cc Cb Nf
noncomputable def bh(f:FuncId) (args:List AV):Option AV:=
 match f,args with
 |205,[.str s,.int .i64 b,.int .i64 w]=>if s≠[]∧s.all isD=true∧s.length≤18∧b=10∧w=64 then some (.tuple [.int .u64 (fx s:Nat),.nilIface]) else none
 |209,[.int .u64 u,.int .i64 b]=>if 0≤u∧u≤18446744073709551615∧b=10 then some (.str (au u.toNat)) else none
 |f,args=>ao f args
theorem yn:OracleOk Tryz.prog (ai bh):=bM fun f args v h mem=>by
 unfold bh at h
 split at h
 ·split at h
  ·rename_i hc
   obtain⟨h1,h2,h3,rfl,rfl⟩:=hc
   cases h
   exact xR _ h1 h2 h3 mem
  ·cases h
 ·split at h
  ·rename_i hc
   obtain⟨h1,h2,rfl⟩:=hc
   cases h
   have hd:=(Int.toNat_lt h1).2 (show _<((18446744073709551616:Nat):Int) by omega)
   have:=wh _ hd mem
   rw[Int.toNat_of_nonneg h1] at this
   exact this
  ·cases h
 ·have:=dc.fn _ _ mem ⟨v,none,[]⟩ (by unfold ai;simp only;rw[h])
  simpa [CallRes.mem] using this
noncomputable def bm:Oracle:=fun c args M=>((ai bh).or bD) c args M
theorem nf:OracleOk Tryz.prog bm:=yn.or DY
def rN:List Nat→Mem
 | []=>[.cells true 0 [.bool false,.nilslice],.cells true 1 []]
 |x::l=>[.cells true 0 [.bool false,.nilslice],.absent,.cells true 1 (iN .u64 (x::l))]
def oP:List Nat→AV
 | []=>.slice 1 0 0 none
 |x::l=>.slice 2 0 (l.length+1) none
theorem Av{K:Nat}(s0:List UInt8) (hd:s0.all isD=true) (hs:s0.length≤1000000) (hK:s0.length<K) {b:Code}(hb:aj Tryz.f140=[b]):
  ∃F:Env→Bool→Env,∀env0 d,(ab env0 3=.str s0∧ab env0 5=.slice 1 0 0 none)→
   aU (aO Tryz.prog) (fun _=>[3,5]) bm K 44 0 true (.loop b) ⟨env0,rN [],d⟩=some (.exit 0,⟨F env0 d,rN (fJ s0),d⟩)∧
   (ab (F env0 d) 5=oP (fJ s0)∧ab (F env0 d) 2=ab env0 2∧ab (F env0 d) 4=ab env0 4):=by
 refine bp rfl (fun env0=>ab env0 3=.str s0∧ab env0 5=.slice 1 0 0 none) (fun env0 env' =>ab env' 5=oP (fJ s0)∧ab env' 2=ab env0 2∧ab env' 4=ab env0 4) ?_
 rintro env0 d ⟨h3,h5⟩
 simp[aj,aM,Tryz.f140] at hb
 have hn:az [3,5] (ad b) env0 ((3,.str s0)::(5,oP [])::env0)=az [3,5] (ad b) env0 env0:=by simp[az,h3,h5,oP]
 rw[←hn]
 refine bK (α:=List UInt8×List Nat) (fun a=>⟨az [3,5] (ad b) env0 ((3,.str a.1)::(5,oP a.2)::env0),rN a.2,d⟩) (fun a=>a.1.length)
  (fun a=>a.1.all isD=true∧a.1.length≤s0.length∧a.2++fJ a.1=fJ s0) (.exit 0) _ d _ (by simp) ?_ K (s0,[]) ⟨hd,Nat.le_refl _,rfl⟩ hK
 rintro ⟨s,done⟩ ⟨hall,hle,hinv⟩
 simp only at hall hle hinv
 clear hn
 subst hb
 by_cases hs0:s=[]
 ·right
  subst hs0
  rw[LQ,List.append_nil] at hinv
  rw[←hinv]
  simp
 ·left
  have hp:0<s.length:=List.length_pos_iff.2 hs0
  rw[uG hs0] at hinv
  have hdl:done.length≤1000000:=by
   have h1:=(jm _ s0 (Nat.le_refl _) hd).2.2
   rw[←hinv] at h1
   simp at h1;omega
  obtain⟨k,hk⟩:∃k,k=s.length-9:=⟨_,rfl⟩
  rw[←hk] at hinv
  obtain⟨n,hn⟩:∃n,n=fx (s.drop k):=⟨_,rfl⟩
  have hnb:n<1000000000:=by rw[hn,hk];exact JQ hall
  rw[←hn] at hinv
  have w1:IntKind.i64.wrap ((s.length:Int)-9)=(s.length:Int)-9:=ag (by omega) (by omega)
  have hmax:(if (s.length:Int)-9<0 then (0:Int) else (s.length:Int)-9)=(k:Int):=by split<;>omega
  have hkl:k≤s.length:=by omega
  have hks:(s.drop k).take (s.length-k)=s.drop k:=List.take_of_length_le (by simp)
  have hdne:s.drop k≠[]:=by intro e;have:=congrArg List.length e;simp at this;omega
  have hdall:=JL hall k
  have hdlen:(s.drop k).length≤18:=by simp;omega
  have hkI:(k:Int)≤(s.length:Int):=by omega
  have hm1:(done.length+1)*8≤140737488355328:=by omega
  have hm2:done.length+1≤140737488355328:=by omega
  obtain⟨sd,hsd⟩:∃sd,sd=s.drop k:=⟨_,rfl⟩
  rw[←hsd] at hks hdne hdall hdlen hn
  refine⟨(s.take k,done++[n]),?_⟩
  refine bC (r:=_∧_) (show((s.take k).all isD=true∧(s.take k).length≤s0.length∧(done++[n])++fJ (s.take k)=fJ s0)∧(s.take k).length<s.length by
   refine⟨⟨JM hall k,by simp;omega,?_⟩,by simp;omega⟩
   rw[←hinv];simp) ?_
  clear hinv
  have hpI:0<(s.length:Int):=by omega
  cases done with
  |nil=>
   simp[rN,oP,bm,Oracle.or,ai,bh,hp,w1,hmax,hkI,←hsd,hks,hdne,hdall,hdlen,←hn,bV,Nat.testBit]
  |cons x l=>
   have ht:(iN .u64 l).take l.length=iN .u64 l:=List.take_of_length_le (by simp)
   simp only[List.length_cons] at hm1 hm2
   simp[rN,oP,bm,Oracle.or,ai,bh,hp,w1,hmax,hkI,←hsd,hks,hdne,hdall,hdlen,←hn,ht,hm1,hm2,bV,cR,Nat.testBit]
theorem Ck(z:Int) (hl:(au z.natAbs).length≤1000000):aa (aO Tryz.prog) (fun _=>[3,5]) (aN Tryz.prog) bm ((au z.natAbs).length+1) 140 [.str (bE z)] []=
  some ⟨.agg [.bool (decide (z<0)),.slice 0 0 (bd (fJ (au z.natAbs))).length none],none,[.cells true 1 (iN .u64 (fJ (au z.natAbs)))]⟩:=by
 have hG:aN Tryz.prog 140=some Tryz.f140:=by kernel_rfl
 obtain⟨b,hb⟩:∃b,aj Tryz.f140=[b]:=⟨_,rfl⟩
 obtain⟨F,hF⟩:=Av (K:=(au z.natAbs).length+1) (au z.natAbs) (cW _) hl (by omega) hb
 simp[aj,aM,Tryz.f140] at hb
 subst hb
 obtain⟨c1,c2,c3⟩:=jm _ (au z.natAbs) (Nat.le_refl _) (cW _)
 have hne:fJ (au z.natAbs)≠[]:=by rw[uG (gR _)];simp
 obtain⟨ch,hch⟩:∃ch,ch=fJ (au z.natAbs):=⟨_,rfl⟩
 rw[←hch] at hF c1 c2 c3 hne ⊢
 have hM:rN ch=[.cells true 0 [.bool false,.nilslice],.absent,.cells true 1 (iN .u64 ch)]:=by cases ch<;>first | exact absurd rfl hne | rfl
 have hO:oP ch=.slice 2 0 ch.length none:=by cases ch<;>first | exact absurd rfl hne | rfl
 rw[hM,hO] at hF
 simp only[rN] at hF
 obtain⟨L,hL⟩:∃L,L=(au z.natAbs).length:=⟨_,rfl⟩
 obtain⟨c,hc⟩:∃c:Nat,c=L / 9+1:=⟨_,rfl⟩
 obtain⟨L9,hL9⟩:∃L9:Nat,L9=L / 9:=⟨_,rfl⟩
 rw[←hL] at hF hl c3 ⊢
 have w1:IntKind.i64.wrap ((L:Int) / 9)=(L9:Int):=by rw[ag (by omega) (by omega)];omega
 have w1' :IntKind.i64.wrap ((L:Int).tdiv 9)=(L9:Int):=by rw[Qm L 9,←hL9];exact ag (by omega) (by omega)
 have w2:IntKind.i64.wrap ((L9:Int)+1)=(c:Int):=by rw[ag (by omega) (by omega)];omega
 have h8:8*(c:Int)≤281474976710656:=by omega
 have h9:(c:Int)≤281474976710656:=by omega
 have hs2:∀a0 a1 l,bB .u64 (a0::a1::.cells true 1 (iN .u64 ch)::l) (.slice 2 0 ch.length none)=some ch:=fun a0 a1 l=>ba rfl (by simp) (List.take_of_length_le (by simp))
 have h10:ch.length≤1000000000:=by omega
 clear hc hL9
 simp[aa,hG,Tryz.f140,bm,bD,bG,bw,be,Oracle.or,ai,bh,ao,gC,ij,←hL,w1,w2,h8,h9,hF,hs2,h10,bx,aG]
theorem HT(z:Int) (hl:(au z.natAbs).length≤1000000) (M:Mem):ACallsTo Tryz.prog 140 [.str (bE z)] M (.agg [.bool (decide (z<0)),.slice M.length 0 (dig 1000000000 z.natAbs).length none]) (M++[.cells true 1 (iN .u64 (dig 1000000000 z.natAbs))]):=by
 obtain⟨c1,c2,c3⟩:=jm _ (au z.natAbs) (Nat.le_refl _) (cW _)
 rw[dj] at c2
 have hd:bd (fJ (au z.natAbs))=dig 1000000000 z.natAbs:=by rw[←ez (by omega) c1,c2]
 have h:=(af ae (aw _) nf (ax _) (Ck z hl)).1
 simp only[CallRes.mem,Option.getD_none,List.nil_append] at h
 have h2:=ACallsTo.truncs (m2:=[.cells true 1 (iN .u64 (dig 1000000000 z.natAbs))]) h rfl (fun b s hb=>by
  match b with
  |0=>simp at hb;subst hb;exact⟨_,rfl,.row (by rw[←hd];exact dy _)⟩
  |b+1=>simp at hb)
 rw[hd] at h2
 have h3:=ACallsTo.frame (M:=M) [] (m:=[]) (new:=[.cells true 1 (iN .u64 (dig 1000000000 z.natAbs))]) rfl (by simp) rfl (by simp) rfl h2
 simpa [AV.ren,AV.rens,eK] using h3
end Go.Proofs
namespace Go.Proofs
open Go.Eng Go.Shelf Go.RowKit Go.Sort
theorem G0{P:Program}{e:TypeId}{n s d:Nat}(hd:P.depth=d+1) (hs:P.cellsOf e=s+1) (hl:sameLayout P P.depth e e=true) (hn:1≤n):liesAt P P.depth e n 0 e 1=true:=by
 rw[hd] at hl
 simp[hd,liesAt,rowAt,hs,hl,hn]
theorem wG(n:Nat) (hn:1≤n):liesAt Tryz.prog Tryz.prog.depth 253 n 0 253 1=true:=
 G0 (s:=1) (d:=Tryz.prog.depth-1) (by kernel_rfl) (by kernel_rfl) (by kernel_rfl) hn
theorem tX:Tryz.prog.cellsOf 253=2:=by kernel_rfl
theorem mJ:(Tryz.prog.info? 253).map (·.size)=some 2:=by kernel_rfl
set_option maxHeartbeats 1000000 in
set_option maxRecDepth 100000 in
theorem qB(b:Nat) (w:World) (h0:w.cell? ⟨b,0,none⟩=some (.pointer (some ⟨b,0,none⟩))):
  Calls Tryz.prog 244 #[.pointer (some ⟨b,0,none⟩)] w fun e w' =>e=.returned (.tuple #[])∧w' =w:=by
 obtain⟨j,hj,_⟩:=Option.map_eq_some_iff.1 mJ
 go_enter Tryz.func244,Tryz.ntmps244
 go_wp2
 rw[Lib.run_neq_ptr_same w _ (tp:=250) (te:=253) (by kernel_rfl) hj]
 go_wp2
 go_end0
 exact⟨rfl,rfl⟩
set_option maxHeartbeats 1000000 in
set_option maxRecDepth 100000 in
theorem qg(b:Nat) (w:World) (h0:w.cell? ⟨b,0,none⟩=some (.pointer none)) (n:Nat) (hn:2≤n) (hsh:w.shape? b=some (253,n)) (hfz:w.frozen? ⟨b,0,none⟩=false):
  Calls Tryz.prog 244 #[.pointer (some ⟨b,0,none⟩)] w fun e w' =>e=.returned (.tuple #[])∧w' =w.setCell ⟨b,0,none⟩ (.pointer (some ⟨b,0,none⟩)):=by
 obtain⟨j,hj,hjs⟩:=Option.map_eq_some_iff.1 mJ
 have tp:Tryz.prog.underlying 250=some (.pointer 253):=by kernel_rfl
 have tu:Tryz.prog.underlying 318=some .unsafePointer:=by kernel_rfl
 go_enter Tryz.func244,Tryz.ntmps244
 go_wp2
 rw[Lib.run_to_unsafe w ⟨b,0,none⟩ tp tu hj (by rw[hjs];decide) hsh (Nat.lt_of_lt_of_le (Nat.zero_lt_succ 1) hn)]
 simp only[Result.andThen]
 rw[Oper.upon_value]
 go_wp2
 rw[run_callFunc_extern Tryz.func274 (by kernel_rfl) (by kernel_rfl) (by kernel_rfl) (e:=Extern.AbiNoEscape.same) (by kernel_rfl)]
 rw[Lib.run_noEscape]
 simp only[Result.andThen]
 rw[Oper.upon_value]
 go_wp2
 rw[Lib.run_from_unsafe w ⟨b,0,none⟩ tu tp hj hsh (wG _ (by rw[tX];omega))]
 simp only[Result.andThen]
 rw[Oper.upon_value]
 go_wp2
 go_end0
 exact⟨rfl,rfl⟩
abbrev aE:Nat:=1000*(253+1)
theorem qf(mem:Mem) (b:Nat) (sl:AV) (hb:mem[b]? =some (.cells true aE [.ptr b 0,sl])):
  ACallsTo Tryz.prog 244 [.ptr b 0] mem (.tuple []) mem:=by
 refine⟨fo _ Tryz.func244 (by kernel_rfl) (by kernel_rfl),fun base μ w Vs hG hH hV=>?_⟩
 obtain⟨X,_,rfl,hV,rfl⟩:=hV
 simp only[VRel] at hV
 have hs:=hH.slot b _ hb
 simp only[SRel] at hs
 obtain⟨cur,el,fr,g1,g2,g3,g4,g5⟩:=hs
 obtain⟨g6,g7,g8,g9⟩:=g5 trivial
 obtain⟨V,hV0,hr⟩:=g4 0 _ rfl
 simp only[VRel] at hr
 obtain⟨hbn,rfl⟩:=hV
 rw[g6] at hr hV0
 rw[g6]
 obtain⟨_,rfl⟩:=hr
 refine(qB (μ b).blk w (by simp only[World.cell?,g1];exact hV0)).mono ?_
 rintro e w' ⟨rfl,rfl⟩
 exact⟨_,_,_,μ,rfl,by simp[VRel,VRels],hH,.refl (Nat.le_refl _),rfl,rfl⟩
theorem mX(mem:Mem) (b:Nat) (sl:AV) (hb:mem[b]? =some (.cells true aE [.nilptr,sl])):
  ACallsTo Tryz.prog 244 [.ptr b 0] mem (.tuple []) (mem.set b (.cells true aE [.ptr b 0,sl])):=by
 refine⟨fo _ Tryz.func244 (by kernel_rfl) (by kernel_rfl),fun base μ w Vs hG hH hV=>?_⟩
 obtain⟨X,_,rfl,hV,rfl⟩:=hV
 simp only[VRel] at hV
 have hs:=hH.slot b _ hb
 simp only[SRel] at hs
 obtain⟨cur,el,fr,g1,g2,g3,g4,g5⟩:=hs
 obtain⟨g6,rfl,g8,g9⟩:=g5 trivial
 obtain⟨V,hV0,hr⟩:=g4 0 _ rfl
 obtain⟨V1,hV1,hr1⟩:=g4 1 _ rfl
 simp only[VRel] at hr
 obtain⟨hbn,rfl⟩:=hV
 rw[g6] at hV0 hV1
 rw[g6]
 subst hr
 have hel:el=253:=by
  have:=g2.2 (by decide)
  exact Nat.succ.inj this
 subst hel
 have hc0:w.cell? ⟨(μ b).blk,0,none⟩=some (.pointer none):=by simp only[World.cell?,g1];exact hV0
 have hsz:cur.size=2∨2<cur.size:=by simp only[List.length_cons,List.length_nil] at g3;omega
 refine(qg (μ b).blk w hc0 cur.size (by omega) (by simp only[World.shape?,g1]) (by simp[World.frozen?,g1])).mono ?_
 rintro e w' ⟨rfl,rfl⟩
 obtain⟨k1,k2⟩:=hH.write (w' :=w.setCell ⟨(μ b).blk,0,none⟩ (.pointer (some ⟨(μ b).blk,0,none⟩))) (s' :=.cells true aE [.ptr b 0,sl]) hb (gT hb) (fun _=>⟨_,List.getElem?_set_self (List.getElem?_eq_some_iff.1 hb).1,rfl⟩) rfl rfl rfl rfl (by simp[World.setCell]) (fun k hk=>by simp[World.setCell,Array.getElem?_modify,Ne.symm hk]) (by
  simp only[SRel]
  refine⟨cur.setIfInBounds 0 (.pointer (some ⟨(μ b).blk,0,none⟩)),253,(0,0),by simp[World.setCell,Array.getElem?_modify,g1],g2,g3,fun j v hv=>?_,fun _=>⟨g6,rfl,by simpa using g8,g9⟩⟩
  match j,hv with
  |0,hv=>
   simp at hv;subst hv
   refine⟨.pointer (some ⟨(μ b).blk,0,none⟩),?_,by simp[VRel,hbn,g6]⟩
   rw[g6]
   have:0<cur.size:=by omega
   simp[this]
  |1,hv=>
   simp at hv;subst hv
   refine⟨V1,?_,hr1⟩
   rw[g6]
   simpa using hV1
  |j+2,hv=>simp at hv)
 exact⟨_,_,_,μ,rfl,by simp[VRel,VRels],k1,k2,rfl,rfl⟩
end Go.Proofs
namespace Go.Proofs
open Go.Eng
def iB(s:List UInt8):List AV:=s.map fun c=>.int .u8 (c.toNat:Int)
@[simp] theorem RK (s:List UInt8):(iB s).length=s.length:=by simp[iB]
theorem NL(s t:List UInt8):iB (s++t)=iB s++iB t:=by simp[iB]
@[simp] theorem SA:iB []=[]:=rfl
@[simp] theorem Sm (m:Nat) (s:List UInt8):AV.refsL m (iB s)=[]:=by
 induction s with
 |nil=>rfl
 |cons c s ih=>simpa [iB,AV.refsL,AV.refs] using ih
@[simp] theorem SB (ρ:Nat→Option Nat) (s:List UInt8):AV.rens ρ (iB s)=iB s:=by
 induction s with
 |nil=>rfl
 |cons c s ih=>simpa [iB,AV.rens,AV.ren] using ih
@[simp] theorem Sz (s:List UInt8) (p:AV→Prop):(∀x,x∈iB s→p x)↔∀c,c∈s→p (.int .u8 (c.toNat:Int)):=by
 simp[iB]
theorem iy(s:List UInt8):gk (iB s)=some s:=by
 induction s with
 |nil=>rfl
 |cons c s ih=>
  have h1:(0:Int)≤(c.toNat:Int)∧(c.toNat:Int)<256:=by have:=c.toNat_lt;omega
  show gk (.int .u8 (c.toNat:Int)::iB s)=_
  rw[gk,if_pos h1,ih]
  simp
noncomputable def eI:Oracle:=fun c args M=>match c,args with
 |.fn 244,[.ptr b 0]=>match M[b]? with
  |some (.cells true es [.nilptr,sl])=>if es=aE then some ⟨.tuple [],some (M.set b (.cells true aE [.ptr b 0,sl])),[]⟩ else none
  |some (.cells true es [.ptr b' 0,_])=>if es=aE∧b' =b then some ⟨.tuple [],none,[]⟩ else none
  |_=>none
 |_,_=>none
theorem lk:OracleOk Tryz.prog eI where
 fn f args mem r h:=by
  unfold eI at h
  split at h
  ·rename_i heq
   cases heq
   split at h
   ·rename_i b _ es sl hb
    split at h
    ·rename_i he
     cases h;subst he
     simpa [CallRes.mem] using mX mem b sl hb
    ·cases h
   ·rename_i b _ es b' sl hb
    split at h
    ·rename_i he
     cases h;obtain⟨rfl,rfl⟩:=he
     simpa [CallRes.mem] using qf mem _ _ hb
    ·cases h
   ·cases h
  ·cases h
 yld b args mem r h:=by unfold eI at h;split at h<;>simp_all
 pre c args mem r p h hp:=by
  unfold eI at h
  split at h
  ·split at h
   ·split at h
    ·cases h;cases hp;simp
    ·cases h
   ·split at h
    ·cases h;cases hp
    ·cases h
   ·cases h
  ·cases h
theorem QA(s:List UInt8):(s.map fun c=>AV.int .u8 (c.toNat:Int))=iB s:=rfl
theorem yE(M:Mem) (b:Nat) (s:List UInt8) (hb:M[b]? =some (.cells true aE [.nilptr,.nilslice])) (hs:s≠[]) (hl:s.length≤100000000):
  bT (aO Tryz.prog) (fun _=>[]) (aN Tryz.prog) eI 1 210 [.ptr b 0,.str s] M=some (.tuple [.int .i64 (s.length:Int),.nilIface],M.set b (.cells true aE [.ptr b 0,.slice M.length 0 s.length none])++[.cells true 6001 (iB s)]):=by
 have hG:aN Tryz.prog 210=some Tryz.f210:=by kernel_rfl
 have hbl:b<M.length:=(List.getElem?_eq_some_iff.1 hb).1
 have hl2:s.length≤140737488355328:=by omega
 have hset:∀x,(M.set b x)[b]? =some x:=fun x=>List.getElem?_set_self hbl
 have hset2:∀x l,(M.set b x++l)[b]? =some x:=fun x l=>by rw[List.getElem?_append_left (by simpa using hbl),hset]
 have hset3:∀x y l,(M.set b x++l).set b y=M.set b y++l:=fun x y l=>by rw[List.set_append_left _ _ (by simpa using hbl),List.set_set]
 clear hbl
 simp[bT,hG,Tryz.f210,eI,hb,hs,hl2,hset,hset2,hset3,QA]
theorem rA(M:Mem) (b:Nat) (c:UInt8) (hb:M[b]? =some (.cells true aE [.nilptr,.nilslice])):
  bT (aO Tryz.prog) (fun _=>[]) (aN Tryz.prog) eI 1 207 [.ptr b 0,.int .u8 (c.toNat:Int)] M=some (.nilIface,M.set b (.cells true aE [.ptr b 0,.slice (M.length+1) 0 1 none])++[.cells true 1 (iB [c]),.cells true 6001 (iB [c])]):=by
 have hG:aN Tryz.prog 207=some Tryz.f207:=by kernel_rfl
 have hbl:b<M.length:=(List.getElem?_eq_some_iff.1 hb).1
 have hset:∀x,(M.set b x)[b]? =some x:=fun x=>List.getElem?_set_self hbl
 have hset2:∀x l,(M.set b x++l)[b]? =some x:=fun x l=>by rw[List.getElem?_append_left (by simpa using hbl),hset]
 have hset3:∀x y l,(M.set b x++l).set b y=M.set b y++l:=fun x y l=>by rw[List.set_append_left _ _ (by simpa using hbl),List.set_set]
 clear hbl
 simp[bT,hG,Tryz.f207,eI,hb,hset,hset2,hset3,iB]
theorem yF(M:Mem) (b k:Nat) (t s:List UInt8) (hb:M[b]? =some (.cells true aE [.ptr b 0,.slice k 0 t.length none])) (hk:M[k]? =some (.cells true 6001 (iB t))) (hbk:k≠b) (hl:t.length+s.length≤100000000):
  bT (aO Tryz.prog) (fun _=>[]) (aN Tryz.prog) eI 1 210 [.ptr b 0,.str s] M=some (.tuple [.int .i64 (s.length:Int),.nilIface],(M.set k .absent).set b (.cells true aE [.ptr b 0,.slice M.length 0 (t.length+s.length) none])++[.cells true 6001 (iB (t++s))]):=by
 have hG:aN Tryz.prog 210=some Tryz.f210:=by kernel_rfl
 have hbl:b<M.length:=(List.getElem?_eq_some_iff.1 hb).1
 have hl2:t.length+s.length≤140737488355328:=by omega
 have hset:∀x,(M.set k x)[b]? =some (.cells true aE [.ptr b 0,.slice k 0 t.length none]):=fun x=>by rw[List.getElem?_set_ne hbk,hb]
 have hset2:∀x l,(M.set k x++l)[b]? =some (.cells true aE [.ptr b 0,.slice k 0 t.length none]):=fun x l=>by rw[List.getElem?_append_left (by simpa using hbl),hset]
 have hset3:∀x y l,(M.set k x++l).set b y=(M.set k x).set b y++l:=fun x y l=>by rw[List.set_append_left _ _ (by simpa using hbl)]
 have htk:(iB t).take t.length=iB t:=List.take_of_length_le (by simp)
 clear hbl
 simp[bT,hG,Tryz.f210,eI,hb,hk,hl2,hset2,hset3,QA,htk,NL]
theorem wP(s0 s1 s3 s4:Slot) (t:List UInt8) (ht:t≠[]) (hl:t.length≤100000000):
  bT (aO Tryz.prog) (fun _=>[]) (aN Tryz.prog) bt 1 211 [.ptr 2 0] [s0,s1,.cells true aE [.ptr 2 0,.slice 5 0 t.length none],s3,s4,.cells true 6001 (iB t)]=some (.str t,[s0,s1,.cells true aE [.ptr 2 0,.slice 5 0 t.length none],s3,s4,.absent]):=by
 have hG:aN Tryz.prog 211=some Tryz.f211:=by kernel_rfl
 have htk:(iB t).take t.length=iB t:=List.take_of_length_le (by simp)
 have hl2:(t.length:Int)≤9223372036854775807:=by omega
 have h0:0<t.length:=List.length_pos_iff.2 ht
 simp[bT,hG,Tryz.f211,hl2,h0,htk,iy,Nat.testBit]
theorem wQ(s0 s1 s3 s4 s5 s6:Slot) (t:List UInt8) (ht:t≠[]) (hl:t.length≤100000000):
  bT (aO Tryz.prog) (fun _=>[]) (aN Tryz.prog) bt 1 211 [.ptr 2 0] [s0,s1,.cells true aE [.ptr 2 0,.slice 7 0 t.length none],s3,s4,s5,s6,.cells true 6001 (iB t)]=some (.str t,[s0,s1,.cells true aE [.ptr 2 0,.slice 7 0 t.length none],s3,s4,s5,s6,.absent]):=by
 have hG:aN Tryz.prog 211=some Tryz.f211:=by kernel_rfl
 have htk:(iB t).take t.length=iB t:=List.take_of_length_le (by simp)
 have hl2:(t.length:Int)≤9223372036854775807:=by omega
 have h0:0<t.length:=List.length_pos_iff.2 ht
 simp[bT,hG,Tryz.f211,hl2,h0,htk,iy,Nat.testBit]
theorem sN:∀{cs:List AV} {t:List UInt8},gk cs=some t→cs=iB t
 | [],t,h=>by cases h;rfl
 |v::l,t,h=>by
  cases v<;>try (unfold gk at h;cases h;done)
  rename_i k n
  cases k<;>try (unfold gk at h;cases h;done)
  unfold gk at h
  split at h
  ·rename_i hn
   split at h
   ·rename_i r hr
    cases h
    have:=sN hr
    rw[this]
    have e:n=max n 0%256:=by omega
    simp only[iB,List.map_cons,List.cons.injEq,AV.int.injEq,true_and,and_true,UInt8.toNat_ofNat']
    omega
   ·cases h
  ·cases h
noncomputable def eF:Oracle:=fun c args M=>match c,args with
 |.fn 207,[.ptr b 0,.int .u8 n]=>match M[b]? with
  |some (.cells true es [.nilptr,.nilslice])=>if es=aE∧n=45 then some ⟨.nilIface,some (M.set b (.cells true aE [.ptr b 0,.slice (M.length+1) 0 1 none])),[.cells true 1 (iB [45]),.cells true 6001 (iB [45])]⟩ else none
  |_=>none
 |.fn 210,[.ptr b 0,.str s]=>match M[b]? with
  |some (.cells true es [.nilptr,.nilslice])=>if es=aE∧s≠[]∧s.length≤100000000 then some ⟨.tuple [.int .i64 (s.length:Int),.nilIface],some (M.set b (.cells true aE [.ptr b 0,.slice M.length 0 s.length none])),[.cells true 6001 (iB s)]⟩ else none
  |some (.cells true es [.ptr b' 0,.slice k 0 n none])=>match M[k]? with
   |some (.cells true es2 cs)=>match gk cs with
    |some t=>if es=aE∧b' =b∧es2=6001∧n=t.length∧k≠b∧t.length+s.length≤100000000 then
      some ⟨.tuple [.int .i64 (s.length:Int),.nilIface],some ((M.set k .absent).set b (.cells true aE [.ptr b 0,.slice M.length 0 (t.length+s.length) none])),[.cells true 6001 (iB (t++s))]⟩ else none
    |none=>none
   |_=>none
  |_=>none
 |.fn 211,[.ptr 2 0]=>match M with
  | [s0,s1,.cells true es [.ptr 2 0,.slice 5 0 n none],s3,s4,.cells true es2 cs]=>match gk cs with
   |some t=>if es=aE∧es2=6001∧n=t.length∧t≠[]∧t.length≤100000000 then
     some ⟨.str t,some [s0,s1,.cells true aE [.ptr 2 0,.slice 5 0 t.length none],s3,s4,.absent],[]⟩ else none
   |none=>none
  | [s0,s1,.cells true es [.ptr 2 0,.slice 7 0 n none],s3,s4,s5,s6,.cells true es2 cs]=>match gk cs with
   |some t=>if es=aE∧es2=6001∧n=t.length∧t≠[]∧t.length≤100000000 then
     some ⟨.str t,some [s0,s1,.cells true aE [.ptr 2 0,.slice 7 0 t.length none],s3,s4,s5,s6,.absent],[]⟩ else none
   |none=>none
  |_=>none
 |_,_=>none
theorem vn:OracleOk Tryz.prog eF where
 fn f args mem r h:=by
  unfold eF at h
  split at h
  ·rename_i heq
   cases heq
   split at h
   ·rename_i hb
    split at h
    ·rename_i hc
     cases h;obtain⟨rfl,rfl⟩:=hc
     exact bQ ae (aw _) lk (ax _) (rA mem _ 45 hb)
    ·cases h
   ·cases h
  ·rename_i heq
   cases heq
   split at h
   ·rename_i hb
    split at h
    ·rename_i hc
     cases h;obtain⟨rfl,h2,h3⟩:=hc
     exact bQ ae (aw _) lk (ax _) (yE mem _ _ hb h2 h3)
    ·cases h
   ·rename_i hb
    split at h
    ·rename_i hk
     split at h
     ·rename_i ht
      split at h
      ·rename_i hc
       cases h;obtain⟨rfl,rfl,rfl,rfl,h2,h3⟩:=hc
       have:=sN ht
       subst this
       exact bQ ae (aw _) lk (ax _) (yF mem _ _ _ _ hb hk h2 h3)
      ·cases h
     ·cases h
    ·cases h
   ·cases h
  ·rename_i heq
   cases heq
   split at h
   ·split at h
    ·rename_i ht
     split at h
     ·rename_i hc
      cases h;obtain⟨rfl,rfl,rfl,h2,h3⟩:=hc
      have:=sN ht
      subst this
      simpa [CallRes.mem] using bQ ae (aw _) (ak _) (ax _) (wP _ _ _ _ _ h2 h3)
     ·cases h
    ·cases h
   ·split at h
    ·rename_i ht
     split at h
     ·rename_i hc
      cases h;obtain⟨rfl,rfl,rfl,h2,h3⟩:=hc
      have:=sN ht
      subst this
      simpa [CallRes.mem] using bQ ae (aw _) (ak _) (ax _) (wQ _ _ _ _ _ _ _ h2 h3)
     ·cases h
    ·cases h
   ·cases h
  ·cases h
 yld b args mem r h:=by unfold eF at h;split at h<;>simp_all
 pre c args mem r p h hp:=by
  unfold eF at h
  repeat' split at h
  all_goals first
   |(cases h;done)
   |(cases h;cases hp;simp;done)
theorem Nq{T:TypeId→Option TyI}{lv:Code→List Nat}{G:FuncId→Option Func}{O:Oracle}{K:Nat}{f:FuncId}{args:List AV}{mem mem' :Mem}{fn:Func}{c:Code}{v:AV}{e:Exit}{env' :Env}{ks:List Nat}
  (hf:G f=some fn) (hb:fn.body=some c) (hl:args.length≤fn.ntmps) (he:e=.normal∨e=.ret)
  (h:aU T lv O K fn.ntmps mem.length true c ⟨cB 0 args,mem,false⟩=some (e,⟨env',mem',true⟩)) (hv:gB T fn.results.toList env' mem' =some v)
  (hks:mU mem.length mem' 1000 (v.refs mem.length++(mem'.take mem.length).flatMap (Slot.refs mem.length)) []=ks) (hok:AM mem.length mem'.length ks=true):
  aa T lv G O K f args mem=some ⟨v.ren (rho mem.length ks),some ((mem'.take mem.length).map (Slot.ren (rho mem.length ks))),keep mem.length ks mem'⟩:=by
 unfold aa
 simp only[hf,hb]
 rw[if_pos hl,h]
 rcases he with rfl | rfl
 ·simp only[hv,if_true]
  rw[hks,if_pos hok]
 ·simp only[hv,if_true]
  rw[hks,if_pos hok]
theorem qj{n:Nat}{A:List Nat}(hA:A.length=n) (hn:0<n) (hl:n≤1000000000) (bs bA yb m0 eb:Nat) (ob oA:Bool) (M:Nat→Mem)
  (l2:(M n).length=m0) (hlen:∀j,j<n→(M (j+1)).length≤(M j).length∧m0<(M j).length) (hs:∀j,j≤n→(M j)[bs]? =some (.cells ob eb [.slice bA 0 n none])) (hr:∀j,j≤n→(M j)[bA]? =some (.cells oA 1 (iN .u64 A)))
  (hstay:∀j,j<n→((M j).take m0).all (fun s=>(s.refs m0).isEmpty)=false) (hy:∀j,j<n→eD Tryz.prog yb [.int .i64 (j:Int),.int .u64 ((A.getD j 0:Nat):Int)] (M (j+1)) (.bool true) (M j))
  (ks:List Nat) (hks:mU m0 (M 0) 1000 (((M 0).take m0).flatMap (Slot.refs m0)) []=ks) (hks2:AM m0 (M 0).length ks=true):
  ACallsTo Tryz.prog 245 [.yield yb,.ptr bs 0] (M n) (.tuple []) (((M 0).take m0).map (Slot.ren (rho m0 ks))++keep m0 ks (M 0)):=by
 have hG:aN Tryz.prog 245=some Tryz.f245:=by kernel_rfl
 obtain⟨O,hO,hOr⟩:=gy (P:=Tryz.prog) (fun j:Nat=>j<n) (fun _=>.yld yb) (fun j=>[.int .i64 (j:Int),.int .u64 ((A.getD j 0:Nat):Int)]) (fun j=>M (j+1)) (fun j=>⟨.bool true,some ((M j).take (M (j+1)).length),(M j).drop (M (j+1)).length⟩)
  (fun j hj=>⟨by simpa [CallRes.mem] using hy j hj,fun q hq=>by cases hq;rw[List.length_take];have:=(hlen j hj).1;omega⟩)
  (fun i j _ _ _ h _=>by
   simp only[List.cons.injEq,AV.int.injEq] at h
   have:i=j:=by omega
   rw[this])
 obtain⟨b,hb⟩:∃b,aj Tryz.f245=[b]:=⟨_,rfl⟩
 have loop:∃F:Env→Env,∀env0,(ab env0 0=.yield yb∧ab env0 1=.ptr bs 0∧ab env0 3=.int .i64 ((n:Int)-1))→
   aU (aO Tryz.prog) (fun _=>[3]) O (n+1) 19 m0 true (.loop b) ⟨env0,M n,false⟩=some (.exit 0,⟨F env0,M 0,true⟩)∧True:=by
  refine rI rfl false true (fun env0=>ab env0 0=.yield yb∧ab env0 1=.ptr bs 0∧ab env0 3=.int .i64 ((n:Int)-1)) (fun _ _=>True) ?_
  rintro env0 ⟨h0,h1,h3⟩
  simp[aj,aM,Tryz.f245] at hb
  have hn0:az [3] (ad b) env0 ((3,.int .i64 ((n:Int)-1))::env0)=az [3] (ad b) env0 env0:=by simp[az,h3]
  rw[←hn0]
  have e0:(⟨az [3] (ad b) env0 ((3,.int .i64 ((n:Int)-1))::env0),M n,false⟩:XS)=⟨az [3] (ad b) env0 ((3,.int .i64 ((n:Int)-1))::env0),M n,decide (n<n)⟩:=by simp
  rw[e0]
  refine bK (α:=Nat) (fun k=>⟨az [3] (ad b) env0 ((3,.int .i64 ((k:Int)-1))::env0),M k,decide (k<n)⟩) id (fun k=>k≤n) (.exit 0) (M 0) true (fun _=>True) (by simp) ?_ (n+1) n (Nat.le_refl _) (by simp)
  intro k hk
  clear hn0 e0
  subst hb
  cases k with
  |zero=>
   right
   simp[hn]
  |succ k=>
   left
   have hkn:k<n:=by omega
   have e1:(((k+1:Nat):Int)-1)=(k:Int):=by omega
   have w1:IntKind.i64.wrap ((k:Int)-1)=(k:Int)-1:=ag (by omega) (by omega)
   have l1:¬(M k).length≤m0:=by have:=(hlen k hkn).2;omega
   have s1:=hs (k+1) (by omega)
   have r1:=hr (k+1) (by omega)
   have o1:=hOr k hkn
   have st1:=hstay k hkn
   obtain⟨x,hx,hx'⟩:=cV (l:=A) (i:=k) (by omega)
   have hg:A.getD k 0=x:=by simp[List.getD,hx]
   rw[hg] at o1
   rw[e1]
   refine⟨k,?_⟩
   have hkn' :(k:Int)<(n:Int):=by omega
   simp[h0,h1,w1,l1,l2,s1,r1,hx',hA,hkn,o1,-List.all_eq_false]
   refine⟨fun h=>?_,by omega⟩
   exfalso
   have:((List.take m0 (M k)).all fun s=>(Slot.refs m0 s).isEmpty)=true:=List.all_eq_true.2 fun s hs=>by
    have h1:=h s hs
    have h2:Slot.refs m0 s=[]:=by cases s<;>exact h1
    rw[h2];rfl
   rw[st1] at this
   cases this
 obtain⟨F,hF⟩:=loop
 simp[aj,aM,Tryz.f245] at hb
 subst hb
 have w1:IntKind.i64.wrap ((n:Int)-1)=(n:Int)-1:=ag (by omega) (by omega)
 have s1:=hs n (by omega)
 have hc:∃env',aU (aO Tryz.prog) (fun _=>[3]) O (n+1) Tryz.f245.ntmps (M n).length true (Tryz.f245.body.getD .skip) ⟨cB 0 [.yield yb,.ptr bs 0],M n,false⟩=some (.normal,⟨env',M 0,true⟩):=by
  simp[Tryz.f245,s1,w1,l2,hF]
 obtain⟨env',hc⟩:=hc
 have hcf:aa (aO Tryz.prog) (fun _=>[3]) (aN Tryz.prog) O (n+1) 245 [.yield yb,.ptr bs 0] (M n)=some ⟨.tuple [],some (((M 0).take m0).map (Slot.ren (rho m0 ks))),keep m0 ks (M 0)⟩:=by
  have:=Nq (T:=aO Tryz.prog) (G:=aN Tryz.prog) (v:=.tuple []) hG rfl (by simp[Tryz.f245]) (.inl rfl) hc rfl (ks:=ks) (by rw[l2];simpa [AV.refs,AV.refsL] using hks) (by rw[l2];exact hks2)
  rw[l2] at this
  simpa [AV.ren,AV.rens] using this
 have h2:=(af ae (aw _) hO (ax _) hcf).1
 simpa [CallRes.mem] using h2
end Go.Proofs
