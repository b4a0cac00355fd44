/- See Q54. -/
import Derived.Test.YtgafjliihahjgaaGreatDoorQ15
import Derived.Shelf.Strings.Builder1
set_option linter.all false
namespace Go.Proofs
open Go.Eng
theorem Qx:aM Tryz.prog 23=some ⟨.array 2 22,2,2,.agg #[.int .i8 0,.int .i8 0],true⟩:=by kernel_rfl
noncomputable def qo:Field:=match Tryz.prog.underlying 25 with | some (.struct fs)=>fs.getD 0 default | _=>default
theorem EC:qo.type=5:=by kernel_rfl
theorem EB:qo.offset=0:=by kernel_rfl
noncomputable def qp:Field:=match Tryz.prog.underlying 25 with | some (.struct fs)=>fs.getD 1 default | _=>default
theorem EE:qp.type=23:=by kernel_rfl
theorem ED:qp.offset=1:=by kernel_rfl
noncomputable def qq:Field:=match Tryz.prog.underlying 25 with | some (.struct fs)=>fs.getD 2 default | _=>default
theorem EG:qq.type=4:=by kernel_rfl
theorem EF:qq.offset=3:=by kernel_rfl
theorem Qy:aM Tryz.prog 25=some ⟨.struct #[qo,qp,qq],4,4,.agg #[.int .u8 0,.int .i8 0,.int .i8 0,.bool false],true⟩:=by kernel_rfl
noncomputable def qs:Field:=match Tryz.prog.underlying 28 with | some (.struct fs)=>fs.getD 0 default | _=>default
theorem EI:qs.type=25:=by kernel_rfl
theorem EH:qs.offset=0:=by kernel_rfl
noncomputable def qt:Field:=match Tryz.prog.underlying 28 with | some (.struct fs)=>fs.getD 1 default | _=>default
theorem EK:qt.type=26:=by kernel_rfl
theorem EJ:qt.offset=4:=by kernel_rfl
theorem QA:aM Tryz.prog 28=some ⟨.struct #[qs,qt],5,32,.agg #[.int .u8 0,.int .i8 0,.int .i8 0,.bool false,.slice none 0 0],true⟩:=by kernel_rfl
noncomputable def lY:Field:=match Tryz.prog.underlying 31 with | some (.struct fs)=>fs.getD 0 default | _=>default
theorem EN:lY.type=29:=by kernel_rfl
theorem EM:lY.offset=0:=by kernel_rfl
theorem EL:(lY.name = "_")=False:=eq_false (by decide +kernel)
noncomputable def ma:Field:=match Tryz.prog.underlying 31 with | some (.struct fs)=>fs.getD 1 default | _=>default
theorem ER:ma.type=29:=by kernel_rfl
theorem EP:ma.offset=1:=by kernel_rfl
theorem EO:(ma.name = "_")=False:=eq_false (by decide +kernel)
noncomputable def mc:Field:=match Tryz.prog.underlying 31 with | some (.struct fs)=>fs.getD 2 default | _=>default
theorem EU:mc.type=29:=by kernel_rfl
theorem ET:mc.offset=2:=by kernel_rfl
theorem ES:(mc.name = "_")=False:=eq_false (by decide +kernel)
theorem QC:aM Tryz.prog 31=some ⟨.struct #[lY,ma,mc],3,48,.agg #[.string ⟨#[]⟩,.string ⟨#[]⟩,.string ⟨#[]⟩],true⟩:=by kernel_rfl
noncomputable def qu:Field:=match Tryz.prog.underlying 37 with | some (.struct fs)=>fs.getD 0 default | _=>default
theorem EW:qu.type=34:=by kernel_rfl
theorem EV:qu.offset=0:=by kernel_rfl
noncomputable def qv:Field:=match Tryz.prog.underlying 37 with | some (.struct fs)=>fs.getD 1 default | _=>default
theorem EY:qv.type=35:=by kernel_rfl
theorem EX:qv.offset=1:=by kernel_rfl
theorem QF:aM Tryz.prog 37=some ⟨.struct #[qu,qv],2,48,.agg #[.slice none 0 0,.slice none 0 0],true⟩:=by kernel_rfl
noncomputable def qw:Field:=match Tryz.prog.underlying 40 with | some (.struct fs)=>fs.getD 0 default | _=>default
theorem E1:qw.type=37:=by kernel_rfl
theorem EZ:qw.offset=0:=by kernel_rfl
noncomputable def qz:Field:=match Tryz.prog.underlying 40 with | some (.struct fs)=>fs.getD 1 default | _=>default
theorem E3:qz.type=9:=by kernel_rfl
theorem E2:qz.offset=2:=by kernel_rfl
noncomputable def qA:Field:=match Tryz.prog.underlying 40 with | some (.struct fs)=>fs.getD 2 default | _=>default
theorem E5:qA.type=38:=by kernel_rfl
theorem E4:qA.offset=3:=by kernel_rfl
theorem QH:aM Tryz.prog 40=some ⟨.struct #[qw,qz,qA],4,88,.agg #[.slice none 0 0,.slice none 0 0,.string ⟨#[]⟩,.slice none 0 0],true⟩:=by kernel_rfl
theorem QJ:aM Tryz.prog 55=some ⟨.array 3 22,3,3,.agg #[.int .i8 0,.int .i8 0,.int .i8 0],true⟩:=by kernel_rfl
noncomputable def qB:Field:=match Tryz.prog.underlying 69 with | some (.struct fs)=>fs.getD 0 default | _=>default
theorem E7:qB.type=66:=by kernel_rfl
theorem E6:qB.offset=0:=by kernel_rfl
noncomputable def qD:Field:=match Tryz.prog.underlying 69 with | some (.struct fs)=>fs.getD 1 default | _=>default
theorem E9:qD.type=57:=by kernel_rfl
theorem E8:qD.offset=1:=by kernel_rfl
noncomputable def qE:Field:=match Tryz.prog.underlying 69 with | some (.struct fs)=>fs.getD 2 default | _=>default
theorem Fb:qE.type=67:=by kernel_rfl
theorem Fa:qE.offset=2:=by kernel_rfl
theorem QO:aM Tryz.prog 69=some ⟨.struct #[qB,qD,qE],3,72,.agg #[.slice none 0 0,.slice none 0 0,.slice none 0 0],true⟩:=by kernel_rfl
noncomputable def me:Field:=match Tryz.prog.underlying 71 with | some (.struct fs)=>fs.getD 0 default | _=>default
theorem Ff:me.type=31:=by kernel_rfl
theorem Fe:me.offset=0:=by kernel_rfl
theorem Fc:(me.name = "_")=False:=eq_false (by decide +kernel)
noncomputable def mf:Field:=match Tryz.prog.underlying 71 with | some (.struct fs)=>fs.getD 1 default | _=>default
theorem Fi:mf.type=29:=by kernel_rfl
theorem Fh:mf.offset=3:=by kernel_rfl
theorem Fg:(mf.name = "_")=False:=eq_false (by decide +kernel)
theorem QP:aM Tryz.prog 71=some ⟨.struct #[me,mf],4,64,.agg #[.string ⟨#[]⟩,.string ⟨#[]⟩,.string ⟨#[]⟩,.string ⟨#[]⟩],true⟩:=by kernel_rfl
noncomputable def mg:Field:=match Tryz.prog.underlying 73 with | some (.struct fs)=>fs.getD 0 default | _=>default
theorem Fm:mg.type=71:=by kernel_rfl
theorem Fk:mg.offset=0:=by kernel_rfl
theorem Fj:(mg.name = "_")=False:=eq_false (by decide +kernel)
noncomputable def mh:Field:=match Tryz.prog.underlying 73 with | some (.struct fs)=>fs.getD 1 default | _=>default
theorem Fq:mh.type=31:=by kernel_rfl
theorem Fp:mh.offset=4:=by kernel_rfl
theorem Fo:(mh.name = "_")=False:=eq_false (by decide +kernel)
theorem QQ:aM Tryz.prog 73=some ⟨.struct #[mg,mh],7,112,.agg #[.string ⟨#[]⟩,.string ⟨#[]⟩,.string ⟨#[]⟩,.string ⟨#[]⟩,.string ⟨#[]⟩,.string ⟨#[]⟩,.string ⟨#[]⟩],true⟩:=by kernel_rfl
noncomputable def qF:Field:=match Tryz.prog.underlying 76 with | some (.struct fs)=>fs.getD 0 default | _=>default
theorem Ft:qF.type=31:=by kernel_rfl
theorem Fs:qF.offset=0:=by kernel_rfl
noncomputable def qG:Field:=match Tryz.prog.underlying 76 with | some (.struct fs)=>fs.getD 1 default | _=>default
theorem Fv:qG.type=74:=by kernel_rfl
theorem Fu:qG.offset=3:=by kernel_rfl
noncomputable def qI:Field:=match Tryz.prog.underlying 76 with | some (.struct fs)=>fs.getD 2 default | _=>default
theorem Fx:qI.type=31:=by kernel_rfl
theorem Fw:qI.offset=4:=by kernel_rfl
theorem QS:aM Tryz.prog 76=some ⟨.struct #[qF,qG,qI],7,120,.agg #[.string ⟨#[]⟩,.string ⟨#[]⟩,.string ⟨#[]⟩,.slice none 0 0,.string ⟨#[]⟩,.string ⟨#[]⟩,.string ⟨#[]⟩],true⟩:=by kernel_rfl
noncomputable def mi:Field:=match Tryz.prog.underlying 78 with | some (.struct fs)=>fs.getD 0 default | _=>default
theorem FA:mi.type=71:=by kernel_rfl
theorem Fz:mi.offset=0:=by kernel_rfl
theorem Fy:(mi.name = "_")=False:=eq_false (by decide +kernel)
noncomputable def mj:Field:=match Tryz.prog.underlying 78 with | some (.struct fs)=>fs.getD 1 default | _=>default
theorem FD:mj.type=29:=by kernel_rfl
theorem FC:mj.offset=4:=by kernel_rfl
theorem FB:(mj.name = "_")=False:=eq_false (by decide +kernel)
noncomputable def ml:Field:=match Tryz.prog.underlying 78 with | some (.struct fs)=>fs.getD 2 default | _=>default
theorem FG:ml.type=9:=by kernel_rfl
theorem FF:ml.offset=5:=by kernel_rfl
theorem FE:(ml.name = "_")=False:=eq_false (by decide +kernel)
theorem QT:aM Tryz.prog 78=some ⟨.struct #[mi,mj,ml],6,96,.agg #[.string ⟨#[]⟩,.string ⟨#[]⟩,.string ⟨#[]⟩,.string ⟨#[]⟩,.string ⟨#[]⟩,.string ⟨#[]⟩],true⟩:=by kernel_rfl
theorem KD:aM Tryz.prog 79=some ⟨.array 4 3,4,32,.agg #[.int .i64 0,.int .i64 0,.int .i64 0,.int .i64 0],true⟩:=by kernel_rfl
noncomputable def mo:Field:=match Tryz.prog.underlying 81 with | some (.struct fs)=>fs.getD 0 default | _=>default
theorem FJ:mo.type=79:=by kernel_rfl
theorem FI:mo.offset=0:=by kernel_rfl
theorem FH:(mo.name = "_")=False:=eq_false (by decide +kernel)
noncomputable def mq:Field:=match Tryz.prog.underlying 81 with | some (.struct fs)=>fs.getD 1 default | _=>default
theorem FM:mq.type=31:=by kernel_rfl
theorem FL:mq.offset=4:=by kernel_rfl
theorem FK:(mq.name = "_")=False:=eq_false (by decide +kernel)
theorem QU:aM Tryz.prog 81=some ⟨.struct #[mo,mq],7,80,.agg #[.int .i64 0,.int .i64 0,.int .i64 0,.int .i64 0,.string ⟨#[]⟩,.string ⟨#[]⟩,.string ⟨#[]⟩],true⟩:=by kernel_rfl
noncomputable def qJ:Field:=match Tryz.prog.underlying 83 with | some (.struct fs)=>fs.getD 0 default | _=>default
theorem FO:qJ.type=3:=by kernel_rfl
theorem FN:qJ.offset=0:=by kernel_rfl
noncomputable def qK:Field:=match Tryz.prog.underlying 83 with | some (.struct fs)=>fs.getD 1 default | _=>default
theorem FQ:qK.type=9:=by kernel_rfl
theorem FP:qK.offset=1:=by kernel_rfl
noncomputable def qL:Field:=match Tryz.prog.underlying 83 with | some (.struct fs)=>fs.getD 2 default | _=>default
theorem FT:qL.type=69:=by kernel_rfl
theorem FR:qL.offset=2:=by kernel_rfl
noncomputable def qM:Field:=match Tryz.prog.underlying 83 with | some (.struct fs)=>fs.getD 3 default | _=>default
theorem FV:qM.type=73:=by kernel_rfl
theorem FU:qM.offset=5:=by kernel_rfl
noncomputable def qN:Field:=match Tryz.prog.underlying 83 with | some (.struct fs)=>fs.getD 4 default | _=>default
theorem FX:qN.type=76:=by kernel_rfl
theorem FW:qN.offset=12:=by kernel_rfl
noncomputable def qO:Field:=match Tryz.prog.underlying 83 with | some (.struct fs)=>fs.getD 5 default | _=>default
theorem FZ:qO.type=78:=by kernel_rfl
theorem FY:qO.offset=19:=by kernel_rfl
noncomputable def qP:Field:=match Tryz.prog.underlying 83 with | some (.struct fs)=>fs.getD 6 default | _=>default
theorem F1:qP.type=81:=by kernel_rfl
theorem F0:qP.offset=25:=by kernel_rfl
theorem QV:aM Tryz.prog 83=some ⟨.struct #[qJ,qK,qL,qM,qN,qO,qP],32,504,.agg #[.int .i64 0,.string ⟨#[]⟩,.slice none 0 0,.slice none 0 0,.slice none 0 0,.string ⟨#[]⟩,.string ⟨#[]⟩,.string ⟨#[]⟩,.string ⟨#[]⟩,.string ⟨#[]⟩,.string ⟨#[]⟩,.string ⟨#[]⟩,.string ⟨#[]⟩,.string ⟨#[]⟩,.string ⟨#[]⟩,.slice none 0 0,.string ⟨#[]⟩,.string ⟨#[]⟩,.string ⟨#[]⟩,.string ⟨#[]⟩,.string ⟨#[]⟩,.string ⟨#[]⟩,.string ⟨#[]⟩,.string ⟨#[]⟩,.string ⟨#[]⟩,.int .i64 0,.int .i64 0,.int .i64 0,.int .i64 0,.string ⟨#[]⟩,.string ⟨#[]⟩,.string ⟨#[]⟩],true⟩:=by kernel_rfl
theorem QW:aM Tryz.prog 92=some ⟨.array 4 5,4,4,.agg #[.int .u8 0,.int .u8 0,.int .u8 0,.int .u8 0],true⟩:=by kernel_rfl
noncomputable def qQ:Field:=match Tryz.prog.underlying 94 with | some (.struct fs)=>fs.getD 0 default | _=>default
theorem F4:qQ.type=5:=by kernel_rfl
theorem F3:qQ.offset=0:=by kernel_rfl
noncomputable def qR:Field:=match Tryz.prog.underlying 94 with | some (.struct fs)=>fs.getD 1 default | _=>default
theorem F6:qR.type=55:=by kernel_rfl
theorem F5:qR.offset=1:=by kernel_rfl
noncomputable def qS:Field:=match Tryz.prog.underlying 94 with | some (.struct fs)=>fs.getD 2 default | _=>default
theorem F8:qS.type=55:=by kernel_rfl
theorem F7:qS.offset=4:=by kernel_rfl
noncomputable def qT:Field:=match Tryz.prog.underlying 94 with | some (.struct fs)=>fs.getD 3 default | _=>default
theorem Ga:qT.type=22:=by kernel_rfl
theorem F9:qT.offset=7:=by kernel_rfl
noncomputable def qU:Field:=match Tryz.prog.underlying 94 with | some (.struct fs)=>fs.getD 4 default | _=>default
theorem Gc:qU.type=92:=by kernel_rfl
theorem Gb:qU.offset=8:=by kernel_rfl
theorem QX:aM Tryz.prog 94=some ⟨.struct #[qQ,qR,qS,qT,qU],12,12,.agg #[.int .u8 0,.int .i8 0,.int .i8 0,.int .i8 0,.int .i8 0,.int .i8 0,.int .i8 0,.int .i8 0,.int .u8 0,.int .u8 0,.int .u8 0,.int .u8 0],true⟩:=by kernel_rfl
noncomputable def ku:Field:=match Tryz.prog.underlying 101 with | some (.struct fs)=>fs.getD 0 default | _=>default
theorem Ce:ku.type=29:=by kernel_rfl
theorem Cd:ku.offset=0:=by kernel_rfl
theorem Cc:(ku.name = "_")=False:=eq_false (by decide +kernel)
noncomputable def kx:Field:=match Tryz.prog.underlying 101 with | some (.struct fs)=>fs.getD 1 default | _=>default
theorem Ch:kx.type=29:=by kernel_rfl
theorem Cg:kx.offset=1:=by kernel_rfl
theorem Cf:(kx.name = "_")=False:=eq_false (by decide +kernel)
theorem OC:aM Tryz.prog 101=some ⟨.struct #[ku,kx],2,32,.agg #[.string ⟨#[]⟩,.string ⟨#[]⟩],true⟩:=by kernel_rfl
theorem GZ:aM Tryz.prog 119=some ⟨.array 2 3,2,16,.agg #[.int .i64 0,.int .i64 0],true⟩:=by kernel_rfl
noncomputable def ky:Field:=match Tryz.prog.underlying 124 with | some (.struct fs)=>fs.getD 0 default | _=>default
theorem Cl:ky.type=29:=by kernel_rfl
theorem Ck:ky.offset=0:=by kernel_rfl
theorem Cj:(ky.name = "_")=False:=eq_false (by decide +kernel)
noncomputable def kz:Field:=match Tryz.prog.underlying 124 with | some (.struct fs)=>fs.getD 1 default | _=>default
theorem Co:kz.type=29:=by kernel_rfl
theorem Cn:kz.offset=1:=by kernel_rfl
theorem Cm:(kz.name = "_")=False:=eq_false (by decide +kernel)
theorem OE:aM Tryz.prog 124=some ⟨.struct #[ky,kz],2,32,.agg #[.string ⟨#[]⟩,.string ⟨#[]⟩],true⟩:=by kernel_rfl
theorem OH:aM Tryz.prog 148=some ⟨.array 3 3,3,24,.agg #[.int .i64 0,.int .i64 0,.int .i64 0],true⟩:=by kernel_rfl
theorem OI:aM Tryz.prog 158=some ⟨.array 3 31,9,144,.agg #[.string ⟨#[]⟩,.string ⟨#[]⟩,.string ⟨#[]⟩,.string ⟨#[]⟩,.string ⟨#[]⟩,.string ⟨#[]⟩,.string ⟨#[]⟩,.string ⟨#[]⟩,.string ⟨#[]⟩],true⟩:=by kernel_rfl
noncomputable def nT:Field:=match Tryz.prog.underlying 160 with | some (.struct fs)=>fs.getD 0 default | _=>default
theorem Cq:nT.type=158:=by kernel_rfl
theorem Cp:nT.offset=0:=by kernel_rfl
noncomputable def nU:Field:=match Tryz.prog.underlying 160 with | some (.struct fs)=>fs.getD 1 default | _=>default
theorem Ct:nU.type=31:=by kernel_rfl
theorem Cr:nU.offset=9:=by kernel_rfl
theorem OJ:aM Tryz.prog 160=some ⟨.struct #[nT,nU],12,192,.agg #[.string ⟨#[]⟩,.string ⟨#[]⟩,.string ⟨#[]⟩,.string ⟨#[]⟩,.string ⟨#[]⟩,.string ⟨#[]⟩,.string ⟨#[]⟩,.string ⟨#[]⟩,.string ⟨#[]⟩,.string ⟨#[]⟩,.string ⟨#[]⟩,.string ⟨#[]⟩],true⟩:=by kernel_rfl
theorem OM:aM Tryz.prog 213=some ⟨.array 3 29,3,48,.agg #[.string ⟨#[]⟩,.string ⟨#[]⟩,.string ⟨#[]⟩],true⟩:=by kernel_rfl
theorem ON:aM Tryz.prog 215=some ⟨.array 3 213,9,144,.agg #[.string ⟨#[]⟩,.string ⟨#[]⟩,.string ⟨#[]⟩,.string ⟨#[]⟩,.string ⟨#[]⟩,.string ⟨#[]⟩,.string ⟨#[]⟩,.string ⟨#[]⟩,.string ⟨#[]⟩],true⟩:=by kernel_rfl
attribute [simp] Qx EC
attribute [simp] EB EE ED EG EF Qy EI EH EK
attribute [simp] EJ QA EN EM EL ER EP EO EU
attribute [simp] ET ES QC EW EV EY EX QF
attribute [simp] E1 EZ E3 E2 E5 E4 QH
attribute [simp] QJ E7 E6 E9 E8
attribute [simp] Fb Fa QO Ff Fe Fc Fi Fh Fg QP
attribute [simp] Fm Fk Fj Fq Fp Fo QQ
attribute [simp] Ft Fs Fv Fu Fx Fw QS
attribute [simp] FA Fz Fy FD FC FB FG FF FE QT KD
attribute [simp] FJ FI FH FM FL FK QU
attribute [simp] FO FN FQ FP FT FR FV FU
attribute [simp] FX FW FZ FY F1 F0 QV QW
attribute [simp] F4 F3 F6 F5 F8 F7 Ga F9
attribute [simp] Gc Gb QX Ce Cd Cc Ch Cg Cf OC GZ
attribute [simp] Cl Ck Cj Co Cn Cm OE OH OI
attribute [simp] Cq Cp Ct Cr OJ OM ON
end Go.Proofs
namespace Go.Proofs
open Go.Eng Go.Shelf Go.RowKit Go.Sort
theorem HI{P:Program}{e:TypeId}{n s d:Nat}(hd:P.depth=d+1) (hs:P.cellsOf e=s+1) (hl:sameLayout P P.depth e e=true) (hn:1≤n):liesAt P P.depth e n 0 e 1=true:=by rw[hd] at hl;simp[hd,liesAt,rowAt,hs,hl,hn]
theorem wk(n:Nat) (hn:1≤n):liesAt Tryz.prog Tryz.prog.depth 291 n 0 291 1=true:=
 HI (s:=1) (d:=Tryz.prog.depth-1) (by kernel_rfl) (by kernel_rfl) (by kernel_rfl) hn
theorem tO:Tryz.prog.cellsOf 291=2:=by kernel_rfl
theorem mW:(Tryz.prog.info? 291).map (·.size)=some 2:=by kernel_rfl
set_option maxHeartbeats 1000000 in
set_option maxRecDepth 100000 in
theorem qj(b:Nat) (w:World) (h0:w.cell? ⟨b,0,none⟩=some (.pointer (some ⟨b,0,none⟩))):
  Calls Tryz.prog 266 #[.pointer (some ⟨b,0,none⟩)] w fun e w' =>e=.returned (.tuple #[])∧w' =w:=by
 obtain⟨j,hj,_⟩:=Option.map_eq_some_iff.1 mW
 go_enter Tryz.func266,Tryz.ntmps266
 go_wp2
 rw[Lib.run_neq_ptr_same w _ (tp:=289) (te:=291) (by kernel_rfl) hj]
 go_wp2
 go_end0
 exact⟨rfl,rfl⟩
set_option maxHeartbeats 1000000 in
set_option maxRecDepth 100000 in
theorem pK(b:Nat) (w:World) (h0:w.cell? ⟨b,0,none⟩=some (.pointer none)) (n:Nat) (hn:2≤n) (hsh:w.shape? b=some (291,n)) (hfz:w.frozen? ⟨b,0,none⟩=false):
  Calls Tryz.prog 266 #[.pointer (some ⟨b,0,none⟩)] w fun e w' =>e=.returned (.tuple #[])∧w' =w.setCell ⟨b,0,none⟩ (.pointer (some ⟨b,0,none⟩)):=by
 obtain⟨j,hj,hjs⟩:=Option.map_eq_some_iff.1 mW;have tp:Tryz.prog.underlying 289=some (.pointer 291):=by kernel_rfl
 have tu:Tryz.prog.underlying 347=some .unsafePointer:=by kernel_rfl
 go_enter Tryz.func266,Tryz.ntmps266
 go_wp2
 rw[Lib.run_to_unsafe w ⟨b,0,none⟩ tp tu hj (by rw[hjs];decide) hsh (Nat.lt_of_lt_of_le (Nat.zero_lt_succ 1) hn)];simp only[Result.andThen];rw[Oper.upon_value]
 go_wp2
 rw[run_callFunc_extern Tryz.func289 (by kernel_rfl) (by kernel_rfl) (by kernel_rfl) (e:=Extern.AbiNoEscape.same) (by kernel_rfl)];rw[Lib.run_noEscape];simp only[Result.andThen];rw[Oper.upon_value]
 go_wp2
 rw[Lib.run_from_unsafe w ⟨b,0,none⟩ tu tp hj hsh (wk _ (by rw[tO];omega))];simp only[Result.andThen];rw[Oper.upon_value]
 go_wp2
 go_end0
 exact⟨rfl,rfl⟩
abbrev lT:Nat:=1000*(291+1)
theorem pJ(mem:Mem) (b:Nat) (sl:AV) (hb:mem[b]? =some (.cells true lT [.ptr b 0,sl])):
  ACallsTo Tryz.prog 266 [.ptr b 0] mem (.tuple []) mem:=by
 refine⟨fO _ Tryz.func266 (by kernel_rfl) (by kernel_rfl),fun base μ w Vs hG hH hV=>?_⟩;obtain⟨X,_,rfl,hV,rfl⟩:=hV;simp only[VRel] at hV;have hs:=hH.slot b _ hb;simp only[SRel] at hs;obtain⟨cur,el,fr,g1,g2,g3,g4,g5⟩:=hs;obtain⟨g6,g7,g8,g9⟩:=g5 trivial;obtain⟨V,hV0,hr⟩:=g4 0 _ rfl;simp only[VRel] at hr;obtain⟨hbn,rfl⟩:=hV;rw[g6] at hr hV0;rw[g6];obtain⟨_,rfl⟩:=hr;refine(qj (μ b).blk w (by simp only[World.cell?,g1];exact hV0)).mono ?_;rintro e w' ⟨rfl,rfl⟩;exact⟨_,_,_,μ,rfl,by simp[VRel,VRels],hH,.refl (Nat.le_refl _),rfl,rfl⟩
theorem nv(mem:Mem) (b:Nat) (sl:AV) (hb:mem[b]? =some (.cells true lT [.nilptr,sl])):
  ACallsTo Tryz.prog 266 [.ptr b 0] mem (.tuple []) (mem.set b (.cells true lT [.ptr b 0,sl])):=by
 refine⟨fO _ Tryz.func266 (by kernel_rfl) (by kernel_rfl),fun base μ w Vs hG hH hV=>?_⟩;obtain⟨X,_,rfl,hV,rfl⟩:=hV;simp only[VRel] at hV;have hs:=hH.slot b _ hb;simp only[SRel] at hs;obtain⟨cur,el,fr,g1,g2,g3,g4,g5⟩:=hs;obtain⟨g6,rfl,g8,g9⟩:=g5 trivial;obtain⟨V,hV0,hr⟩:=g4 0 _ rfl;obtain⟨V1,hV1,hr1⟩:=g4 1 _ rfl;simp only[VRel] at hr;obtain⟨hbn,rfl⟩:=hV;rw[g6] at hV0 hV1;rw[g6];subst hr;have hel:el=291:=by have:=g2.2 (by decide);exact Nat.succ.inj this
 subst hel;have hc0:w.cell? ⟨(μ b).blk,0,none⟩=some (.pointer none):=by simp only[World.cell?,g1];exact hV0
 have hsz:cur.size=2∨2<cur.size:=by simp only[List.length_cons,List.length_nil] at g3;omega
 refine(pK (μ b).blk w hc0 cur.size (by omega) (by simp only[World.shape?,g1]) (by simp[World.frozen?,g1])).mono ?_;rintro e w' ⟨rfl,rfl⟩;obtain⟨k1,k2⟩:=hH.write (w' :=w.setCell ⟨(μ b).blk,0,none⟩ (.pointer (some ⟨(μ b).blk,0,none⟩))) (s' :=.cells true lT [.ptr b 0,sl]) hb (il hb) (fun _=>⟨_,List.getElem?_set_self (List.getElem?_eq_some_iff.1 hb).1,rfl⟩) rfl rfl rfl rfl (by simp[World.setCell]) (fun k hk=>by simp[World.setCell,Array.getElem?_modify,Ne.symm hk]) (by
  simp only[SRel];refine⟨cur.setIfInBounds 0 (.pointer (some ⟨(μ b).blk,0,none⟩)),291,(0,0),by simp[World.setCell,Array.getElem?_modify,g1],g2,g3,fun j v hv=>?_,fun _=>⟨g6,rfl,by simpa using g8,g9⟩⟩
  match j,hv with
  |0,hv=>
   simp at hv;subst hv;refine⟨.pointer (some ⟨(μ b).blk,0,none⟩),?_,by simp[VRel,hbn,g6]⟩;rw[g6];have:0<cur.size:=by omega
   simp[this]
  |1,hv=>
   simp at hv;subst hv;refine⟨V1,?_,hr1⟩;rw[g6];simpa using hV1
  |j+2,hv=>simp at hv)
 exact⟨_,_,_,μ,rfl,by simp[VRel,VRels],k1,k2,rfl,rfl⟩
end Go.Proofs
