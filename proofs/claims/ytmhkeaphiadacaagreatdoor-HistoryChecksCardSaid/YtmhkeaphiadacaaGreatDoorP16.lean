/- See P53. -/
import Derived.Test.YtmhkeaphiadacaaGreatDoorP15
import Derived.Shelf.Strings.Builder1
set_option linter.all false
set_option maxRecDepth 100000
set_option maxHeartbeats 40000000
namespace Go.Proofs
open Go.Eng
open Tryz
noncomputable def Vc:Field:=match prog.underlying 7 with | some (.struct fs)=>fs.getD 0 default | _=>default
noncomputable def Vd:Field:=match prog.underlying 7 with | some (.struct fs)=>fs.getD 1 default | _=>default
noncomputable def Ve:Field:=match prog.underlying 7 with | some (.struct fs)=>fs.getD 2 default | _=>default
noncomputable def Vf:Field:=match prog.underlying 7 with | some (.struct fs)=>fs.getD 3 default | _=>default
noncomputable def Vg:Field:=match prog.underlying 8 with | some (.struct fs)=>fs.getD 0 default | _=>default
noncomputable def Vh:Field:=match prog.underlying 8 with | some (.struct fs)=>fs.getD 1 default | _=>default
noncomputable def Vi:Field:=match prog.underlying 8 with | some (.struct fs)=>fs.getD 2 default | _=>default
noncomputable def Vj:Field:=match prog.underlying 8 with | some (.struct fs)=>fs.getD 3 default | _=>default
theorem SV:aC prog 23=some ⟨.array 2 22,2,2,.agg #[.int .i8 0,.int .i8 0],true⟩:=by kernel_rfl
noncomputable def sN:Field:=match prog.underlying 25 with | some (.struct fs)=>fs.getD 0 default | _=>default
theorem GW:sN.type=5:=by kernel_rfl
theorem GV:sN.offset=0:=by kernel_rfl
noncomputable def sO:Field:=match prog.underlying 25 with | some (.struct fs)=>fs.getD 1 default | _=>default
theorem GY:sO.type=23:=by kernel_rfl
theorem GX:sO.offset=1:=by kernel_rfl
noncomputable def sP:Field:=match prog.underlying 25 with | some (.struct fs)=>fs.getD 2 default | _=>default
theorem G0:sP.type=4:=by kernel_rfl
theorem GZ:sP.offset=3:=by kernel_rfl
theorem SW:aC prog 25=some ⟨.struct #[sN,sO,sP],4,4,.agg #[.int .u8 0,.int .i8 0,.int .i8 0,.bool false],true⟩:=by kernel_rfl
noncomputable def sQ:Field:=match prog.underlying 28 with | some (.struct fs)=>fs.getD 0 default | _=>default
theorem G2:sQ.type=25:=by kernel_rfl
theorem G1:sQ.offset=0:=by kernel_rfl
noncomputable def sR:Field:=match prog.underlying 28 with | some (.struct fs)=>fs.getD 1 default | _=>default
theorem G4:sR.type=26:=by kernel_rfl
theorem G3:sR.offset=4:=by kernel_rfl
theorem SY:aC prog 28=some ⟨.struct #[sQ,sR],5,32,.agg #[.int .u8 0,.int .i8 0,.int .i8 0,.bool false,.slice none 0 0],true⟩:=by kernel_rfl
theorem SZ:aC prog 29=some ⟨.array 3 22,3,3,.agg #[.int .i8 0,.int .i8 0,.int .i8 0],true⟩:=by kernel_rfl
theorem S0:aC prog 30=some ⟨.array 4 5,4,4,.agg #[.int .u8 0,.int .u8 0,.int .u8 0,.int .u8 0],true⟩:=by kernel_rfl
noncomputable def sS:Field:=match prog.underlying 32 with | some (.struct fs)=>fs.getD 0 default | _=>default
theorem G6:sS.type=5:=by kernel_rfl
theorem G5:sS.offset=0:=by kernel_rfl
noncomputable def sT:Field:=match prog.underlying 32 with | some (.struct fs)=>fs.getD 1 default | _=>default
theorem G8:sT.type=29:=by kernel_rfl
theorem G7:sT.offset=1:=by kernel_rfl
noncomputable def sU:Field:=match prog.underlying 32 with | some (.struct fs)=>fs.getD 2 default | _=>default
theorem Ha:sU.type=29:=by kernel_rfl
theorem G9:sU.offset=4:=by kernel_rfl
noncomputable def sV:Field:=match prog.underlying 32 with | some (.struct fs)=>fs.getD 3 default | _=>default
theorem Hc:sV.type=22:=by kernel_rfl
theorem Hb:sV.offset=7:=by kernel_rfl
noncomputable def sW:Field:=match prog.underlying 32 with | some (.struct fs)=>fs.getD 4 default | _=>default
theorem He:sW.type=30:=by kernel_rfl
theorem Hd:sW.offset=8:=by kernel_rfl
theorem S3:aC prog 32=some ⟨.struct #[sS,sT,sU,sV,sW],12,12,.agg #[.int .u8 0,.int .i8 0,.int .i8 0,.int .i8 0,.int .i8 0,.int .i8 0,.int .i8 0,.int .i8 0,.int .u8 0,.int .u8 0,.int .u8 0,.int .u8 0],true⟩:=by kernel_rfl
noncomputable def sX:Field:=match prog.underlying 38 with | some (.struct fs)=>fs.getD 0 default | _=>default
theorem Hg:sX.type=35:=by kernel_rfl
theorem Hf:sX.offset=0:=by kernel_rfl
noncomputable def sY:Field:=match prog.underlying 38 with | some (.struct fs)=>fs.getD 1 default | _=>default
theorem Hj:sY.type=36:=by kernel_rfl
theorem Hh:sY.offset=1:=by kernel_rfl
theorem S6:aC prog 38=some ⟨.struct #[sX,sY],2,48,.agg #[.slice none 0 0,.slice none 0 0],true⟩:=by kernel_rfl
noncomputable def sZ:Field:=match prog.underlying 41 with | some (.struct fs)=>fs.getD 0 default | _=>default
theorem Hl:sZ.type=38:=by kernel_rfl
theorem Hk:sZ.offset=0:=by kernel_rfl
noncomputable def tf:Field:=match prog.underlying 41 with | some (.struct fs)=>fs.getD 1 default | _=>default
theorem Hn:tf.type=9:=by kernel_rfl
theorem Hm:tf.offset=2:=by kernel_rfl
noncomputable def tg:Field:=match prog.underlying 41 with | some (.struct fs)=>fs.getD 2 default | _=>default
theorem Hp:tg.type=39:=by kernel_rfl
theorem Ho:tg.offset=3:=by kernel_rfl
theorem S8:aC prog 41=some ⟨.struct #[sZ,tf,tg],4,88,.agg #[.slice none 0 0,.slice none 0 0,.string ⟨#[]⟩,.slice none 0 0],true⟩:=by kernel_rfl
noncomputable def th:Field:=match prog.underlying 48 with | some (.struct fs)=>fs.getD 0 default | _=>default
theorem Hr:th.type=44:=by kernel_rfl
theorem Hq:th.offset=0:=by kernel_rfl
noncomputable def tl:Field:=match prog.underlying 48 with | some (.struct fs)=>fs.getD 1 default | _=>default
theorem Ht:tl.type=45:=by kernel_rfl
theorem Hs:tl.offset=1:=by kernel_rfl
noncomputable def tn:Field:=match prog.underlying 48 with | some (.struct fs)=>fs.getD 2 default | _=>default
theorem Hv:tn.type=46:=by kernel_rfl
theorem Hu:tn.offset=2:=by kernel_rfl
theorem Td:aC prog 48=some ⟨.struct #[th,tl,tn],3,72,.agg #[.slice none 0 0,.slice none 0 0,.slice none 0 0],true⟩:=by kernel_rfl
noncomputable def nH:Field:=match prog.underlying 51 with | some (.struct fs)=>fs.getD 0 default | _=>default
theorem Hy:nH.type=49:=by kernel_rfl
theorem Hx:nH.offset=0:=by kernel_rfl
theorem Hw:(nH.name = "_")=False:=eq_false (by decide +kernel)
noncomputable def nI:Field:=match prog.underlying 51 with | some (.struct fs)=>fs.getD 1 default | _=>default
theorem HB:nI.type=49:=by kernel_rfl
theorem HA:nI.offset=1:=by kernel_rfl
theorem Hz:(nI.name = "_")=False:=eq_false (by decide +kernel)
noncomputable def nJ:Field:=match prog.underlying 51 with | some (.struct fs)=>fs.getD 2 default | _=>default
theorem HE:nJ.type=49:=by kernel_rfl
theorem HD:nJ.offset=2:=by kernel_rfl
theorem HC:(nJ.name = "_")=False:=eq_false (by decide +kernel)
theorem Tf:aC prog 51=some ⟨.struct #[nH,nI,nJ],3,48,.agg #[.string ⟨#[]⟩,.string ⟨#[]⟩,.string ⟨#[]⟩],true⟩:=by kernel_rfl
noncomputable def nK:Field:=match prog.underlying 53 with | some (.struct fs)=>fs.getD 0 default | _=>default
theorem HH:nK.type=51:=by kernel_rfl
theorem HG:nK.offset=0:=by kernel_rfl
theorem HF:(nK.name = "_")=False:=eq_false (by decide +kernel)
noncomputable def nL:Field:=match prog.underlying 53 with | some (.struct fs)=>fs.getD 1 default | _=>default
theorem HL:nL.type=49:=by kernel_rfl
theorem HJ:nL.offset=3:=by kernel_rfl
theorem HI:(nL.name = "_")=False:=eq_false (by decide +kernel)
theorem Tg:aC prog 53=some ⟨.struct #[nK,nL],4,64,.agg #[.string ⟨#[]⟩,.string ⟨#[]⟩,.string ⟨#[]⟩,.string ⟨#[]⟩],true⟩:=by kernel_rfl
noncomputable def nN:Field:=match prog.underlying 55 with | some (.struct fs)=>fs.getD 0 default | _=>default
theorem HO:nN.type=53:=by kernel_rfl
theorem HN:nN.offset=0:=by kernel_rfl
theorem HM:(nN.name = "_")=False:=eq_false (by decide +kernel)
noncomputable def nO:Field:=match prog.underlying 55 with | some (.struct fs)=>fs.getD 1 default | _=>default
theorem HR:nO.type=51:=by kernel_rfl
theorem HQ:nO.offset=4:=by kernel_rfl
theorem HP:(nO.name = "_")=False:=eq_false (by decide +kernel)
theorem Th:aC prog 55=some ⟨.struct #[nN,nO],7,112,.agg #[.string ⟨#[]⟩,.string ⟨#[]⟩,.string ⟨#[]⟩,.string ⟨#[]⟩,.string ⟨#[]⟩,.string ⟨#[]⟩,.string ⟨#[]⟩],true⟩:=by kernel_rfl
noncomputable def tq:Field:=match prog.underlying 58 with | some (.struct fs)=>fs.getD 0 default | _=>default
theorem HU:tq.type=51:=by kernel_rfl
theorem HT:tq.offset=0:=by kernel_rfl
noncomputable def tt:Field:=match prog.underlying 58 with | some (.struct fs)=>fs.getD 1 default | _=>default
theorem HW:tt.type=56:=by kernel_rfl
theorem HV:tt.offset=3:=by kernel_rfl
noncomputable def tx:Field:=match prog.underlying 58 with | some (.struct fs)=>fs.getD 2 default | _=>default
theorem HY:tx.type=51:=by kernel_rfl
theorem HX:tx.offset=4:=by kernel_rfl
theorem Tj:aC prog 58=some ⟨.struct #[tq,tt,tx],7,120,.agg #[.string ⟨#[]⟩,.string ⟨#[]⟩,.string ⟨#[]⟩,.slice none 0 0,.string ⟨#[]⟩,.string ⟨#[]⟩,.string ⟨#[]⟩],true⟩:=by kernel_rfl
noncomputable def nP:Field:=match prog.underlying 60 with | some (.struct fs)=>fs.getD 0 default | _=>default
theorem H3:nP.type=53:=by kernel_rfl
theorem H0:nP.offset=0:=by kernel_rfl
theorem HZ:(nP.name = "_")=False:=eq_false (by decide +kernel)
noncomputable def nQ:Field:=match prog.underlying 60 with | some (.struct fs)=>fs.getD 1 default | _=>default
theorem H6:nQ.type=49:=by kernel_rfl
theorem H5:nQ.offset=4:=by kernel_rfl
theorem H4:(nQ.name = "_")=False:=eq_false (by decide +kernel)
noncomputable def nS:Field:=match prog.underlying 60 with | some (.struct fs)=>fs.getD 2 default | _=>default
theorem H9:nS.type=9:=by kernel_rfl
theorem H8:nS.offset=5:=by kernel_rfl
theorem H7:(nS.name = "_")=False:=eq_false (by decide +kernel)
theorem Tk:aC prog 60=some ⟨.struct #[nP,nQ,nS],6,96,.agg #[.string ⟨#[]⟩,.string ⟨#[]⟩,.string ⟨#[]⟩,.string ⟨#[]⟩,.string ⟨#[]⟩,.string ⟨#[]⟩],true⟩:=by kernel_rfl
theorem E7:aC prog 61=some ⟨.array 4 3,4,32,.agg #[.int .i64 0,.int .i64 0,.int .i64 0,.int .i64 0],true⟩:=by kernel_rfl
noncomputable def nT:Field:=match prog.underlying 63 with | some (.struct fs)=>fs.getD 0 default | _=>default
theorem Ic:nT.type=61:=by kernel_rfl
theorem Ib:nT.offset=0:=by kernel_rfl
theorem Ia:(nT.name = "_")=False:=eq_false (by decide +kernel)
noncomputable def nU:Field:=match prog.underlying 63 with | some (.struct fs)=>fs.getD 1 default | _=>default
theorem Ig:nU.type=51:=by kernel_rfl
theorem If:nU.offset=4:=by kernel_rfl
theorem Ie:(nU.name = "_")=False:=eq_false (by decide +kernel)
theorem Tl:aC prog 63=some ⟨.struct #[nT,nU],7,80,.agg #[.int .i64 0,.int .i64 0,.int .i64 0,.int .i64 0,.string ⟨#[]⟩,.string ⟨#[]⟩,.string ⟨#[]⟩],true⟩:=by kernel_rfl
noncomputable def tz:Field:=match prog.underlying 65 with | some (.struct fs)=>fs.getD 0 default | _=>default
theorem Ii:tz.type=3:=by kernel_rfl
theorem Ih:tz.offset=0:=by kernel_rfl
noncomputable def tB:Field:=match prog.underlying 65 with | some (.struct fs)=>fs.getD 1 default | _=>default
theorem Ik:tB.type=9:=by kernel_rfl
theorem Ij:tB.offset=1:=by kernel_rfl
noncomputable def tE:Field:=match prog.underlying 65 with | some (.struct fs)=>fs.getD 2 default | _=>default
theorem Im:tE.type=48:=by kernel_rfl
theorem Il:tE.offset=2:=by kernel_rfl
noncomputable def tG:Field:=match prog.underlying 65 with | some (.struct fs)=>fs.getD 3 default | _=>default
theorem Ip:tG.type=55:=by kernel_rfl
theorem Io:tG.offset=5:=by kernel_rfl
noncomputable def tH:Field:=match prog.underlying 65 with | some (.struct fs)=>fs.getD 4 default | _=>default
theorem Ir:tH.type=58:=by kernel_rfl
theorem Iq:tH.offset=12:=by kernel_rfl
noncomputable def tI:Field:=match prog.underlying 65 with | some (.struct fs)=>fs.getD 5 default | _=>default
theorem It:tI.type=60:=by kernel_rfl
theorem Is:tI.offset=19:=by kernel_rfl
noncomputable def tJ:Field:=match prog.underlying 65 with | some (.struct fs)=>fs.getD 6 default | _=>default
theorem Iv:tJ.type=63:=by kernel_rfl
theorem Iu:tJ.offset=25:=by kernel_rfl
theorem Tn:aC prog 65=some ⟨.struct #[tz,tB,tE,tG,tH,tI,tJ],32,504,.agg #[.int .i64 0,.string ⟨#[]⟩,.slice none 0 0,.slice none 0 0,.slice none 0 0,.string ⟨#[]⟩,.string ⟨#[]⟩,.string ⟨#[]⟩,.string ⟨#[]⟩,.string ⟨#[]⟩,.string ⟨#[]⟩,.string ⟨#[]⟩,.string ⟨#[]⟩,.string ⟨#[]⟩,.string ⟨#[]⟩,.slice none 0 0,.string ⟨#[]⟩,.string ⟨#[]⟩,.string ⟨#[]⟩,.string ⟨#[]⟩,.string ⟨#[]⟩,.string ⟨#[]⟩,.string ⟨#[]⟩,.string ⟨#[]⟩,.string ⟨#[]⟩,.int .i64 0,.int .i64 0,.int .i64 0,.int .i64 0,.string ⟨#[]⟩,.string ⟨#[]⟩,.string ⟨#[]⟩],true⟩:=by kernel_rfl
noncomputable def tK:Field:=match prog.underlying 79 with | some (.struct fs)=>fs.getD 0 default | _=>default
theorem Ix:tK.type=5:=by kernel_rfl
theorem Iw:tK.offset=0:=by kernel_rfl
noncomputable def tM:Field:=match prog.underlying 79 with | some (.struct fs)=>fs.getD 1 default | _=>default
theorem Iz:tM.type=5:=by kernel_rfl
theorem Iy:tM.offset=1:=by kernel_rfl
theorem To:aC prog 79=some ⟨.struct #[tK,tM],2,2,.agg #[.int .u8 0,.int .u8 0],true⟩:=by kernel_rfl
noncomputable def tN:Field:=match prog.underlying 86 with | some (.struct fs)=>fs.getD 0 default | _=>default
theorem IB:tN.type=9:=by kernel_rfl
theorem IA:tN.offset=0:=by kernel_rfl
noncomputable def tO:Field:=match prog.underlying 86 with | some (.struct fs)=>fs.getD 1 default | _=>default
theorem ID:tO.type=84:=by kernel_rfl
theorem IC:tO.offset=1:=by kernel_rfl
noncomputable def tP:Field:=match prog.underlying 86 with | some (.struct fs)=>fs.getD 2 default | _=>default
theorem IF:tP.type=3:=by kernel_rfl
theorem IE:tP.offset=2:=by kernel_rfl
noncomputable def tQ:Field:=match prog.underlying 86 with | some (.struct fs)=>fs.getD 3 default | _=>default
theorem IH:tQ.type=51:=by kernel_rfl
theorem IG:tQ.offset=3:=by kernel_rfl
theorem Tq:aC prog 86=some ⟨.struct #[tN,tO,tP,tQ],6,96,.agg #[.string ⟨#[]⟩,.slice none 0 0,.int .i64 0,.string ⟨#[]⟩,.string ⟨#[]⟩,.string ⟨#[]⟩],true⟩:=by kernel_rfl
noncomputable def lP:Field:=match prog.underlying 110 with | some (.struct fs)=>fs.getD 0 default | _=>default
theorem Ex:lP.type=49:=by kernel_rfl
theorem Ew:lP.offset=0:=by kernel_rfl
theorem Ev:(lP.name = "_")=False:=eq_false (by decide +kernel)
noncomputable def lQ:Field:=match prog.underlying 110 with | some (.struct fs)=>fs.getD 1 default | _=>default
theorem EA:lQ.type=49:=by kernel_rfl
theorem Ez:lQ.offset=1:=by kernel_rfl
theorem Ey:(lQ.name = "_")=False:=eq_false (by decide +kernel)
theorem Q6:aC prog 110=some ⟨.struct #[lP,lQ],2,32,.agg #[.string ⟨#[]⟩,.string ⟨#[]⟩],true⟩:=by kernel_rfl
noncomputable def lS:Field:=match prog.underlying 121 with | some (.struct fs)=>fs.getD 0 default | _=>default
theorem ED:lS.type=49:=by kernel_rfl
theorem EC:lS.offset=0:=by kernel_rfl
theorem EB:(lS.name = "_")=False:=eq_false (by decide +kernel)
noncomputable def lU:Field:=match prog.underlying 121 with | some (.struct fs)=>fs.getD 1 default | _=>default
theorem EG:lU.type=49:=by kernel_rfl
theorem EF:lU.offset=1:=by kernel_rfl
theorem EE:(lU.name = "_")=False:=eq_false (by decide +kernel)
theorem Q8:aC prog 121=some ⟨.struct #[lS,lU],2,32,.agg #[.string ⟨#[]⟩,.string ⟨#[]⟩],true⟩:=by kernel_rfl
theorem Q9:aC prog 124=some ⟨.array 3 3,3,24,.agg #[.int .i64 0,.int .i64 0,.int .i64 0],true⟩:=by kernel_rfl
theorem JP:aC prog 143=some ⟨.array 2 3,2,16,.agg #[.int .i64 0,.int .i64 0],true⟩:=by kernel_rfl
theorem Re:aC prog 206=some ⟨.array 3 121,6,96,.agg #[.string ⟨#[]⟩,.string ⟨#[]⟩,.string ⟨#[]⟩,.string ⟨#[]⟩,.string ⟨#[]⟩,.string ⟨#[]⟩],true⟩:=by kernel_rfl
attribute [simp] SV GW
attribute [simp] GV GY GX G0 GZ SW G2 G1 G4
attribute [simp] G3 SY SZ S0
attribute [simp] G6 G5 G8 G7 Ha G9 Hc Hb He Hd S3
attribute [simp] Hg Hf Hj Hh S6
attribute [simp] Hl Hk Hn Hm Hp Ho S8
attribute [simp] Hr Hq Ht Hs Hv Hu Td
attribute [simp] Hy Hx Hw HB HA Hz HE HD HC Tf HH HG
attribute [simp] HF HL HJ HI Tg HO HN HM HR HQ HP Th
attribute [simp] HU HT HW HV HY HX Tj
attribute [simp] H3 H0 HZ H6 H5 H4 H9 H8 H7 Tk E7
attribute [simp] Ic Ib Ia Ig If Ie Tl
attribute [simp] Ii Ih Ik
attribute [simp] Ij Im Il Ip Io Ir Iq It Is Iv Iu Tn
attribute [simp] Ix Iw Iz Iy To
attribute [simp] IB IA ID IC IF IE IH IG Tq
attribute [simp] Ex Ew Ev EA Ez Ey Q6 ED
attribute [simp] EC EB EG EF EE Q8 Q9
attribute [simp] JP Re
end Go.Proofs
namespace Go.Proofs
open Go.Eng Go.Shelf Go.RowKit Go.Sort
open Tryz
theorem Kw{P:Program}{e:TypeId}{n s d:Nat}(hd:P.depth=d+1)(hs:P.cellsOf e=s+1)(hl:sameLayout P P.depth e e=true)(hn:1≤n):liesAt P P.depth e n 0 e 1=true:=by rw[hd] at hl;simp[hd,liesAt,rowAt,hs,hl,hn]
theorem yx(n:Nat)(hn:1≤n):liesAt prog prog.depth 314 n 0 314 1=true:=
 Kw (s:=1) (d:=prog.depth-1) (by kernel_rfl) (by kernel_rfl) (by kernel_rfl) hn
theorem vV:prog.cellsOf 314=2:=by kernel_rfl
theorem oZ:(prog.info? 314).map (·.size)=some 2:=by kernel_rfl
theorem sL(b:Nat)(w:World)(h0:w.cell? ⟨b,0,none⟩=some (.pointer (some ⟨b,0,none⟩))):
  Calls prog 269 #[.pointer (some ⟨b,0,none⟩)] w fun e w' =>e=.returned (.tuple #[])∧w' =w:=by
 obtain⟨j,hj,_⟩:=Option.map_eq_some_iff.1 oZ
 go_enter func269,ntmps269
 go_wp2
 rw[Lib.run_neq_ptr_same w _ (tp:=312) (te:=314) (by kernel_rfl) hj]
 go_wp2
 go_end0
 exact⟨rfl,rfl⟩
theorem sj(b:Nat)(w:World)(h0:w.cell? ⟨b,0,none⟩=some (.pointer none))(n:Nat)(hn:2≤n)(Y0:w.shape? b=some (314,n))(hfz:w.frozen? ⟨b,0,none⟩=false):
  Calls prog 269 #[.pointer (some ⟨b,0,none⟩)] w fun e w' =>e=.returned (.tuple #[])∧w' =w.setCell ⟨b,0,none⟩ (.pointer (some ⟨b,0,none⟩)):=by
 obtain⟨j,hj,Zu⟩:=Option.map_eq_some_iff.1 oZ;have tp:prog.underlying 312=some (.pointer 314):=by kernel_rfl
 have tu:prog.underlying 346=some .unsafePointer:=by kernel_rfl
 go_enter func269,ntmps269
 go_wp2
 rw[Lib.run_to_unsafe w ⟨b,0,none⟩ tp tu hj (by rw[Zu];decide) Y0 (Nat.lt_of_lt_of_le (Nat.zero_lt_succ 1) hn)];simp only[Result.andThen];rw[Oper.upon_value]
 go_wp2
 rw[run_callFunc_extern func281 (by kernel_rfl) (by kernel_rfl) (by kernel_rfl) (e:=Extern.AbiNoEscape.same) (by kernel_rfl)];rw[Lib.run_noEscape];simp only[Result.andThen];rw[Oper.upon_value]
 go_wp2
 rw[Lib.run_from_unsafe w ⟨b,0,none⟩ tu tp hj Y0 (yx _ (by rw[vV];omega))];simp only[Result.andThen];rw[Oper.upon_value]
 go_wp2
 go_end0
 exact⟨rfl,rfl⟩
abbrev nA:Nat:=1000*(314+1)
theorem si(mem:Mem)(b:Nat)(sl:AV)(hb:mem[b]? =some (.cells true nA [.ptr b 0,sl])):
  mB prog 269 [.ptr b 0] mem (.tuple []) mem:=by
 refine⟨gC _ func269 (by kernel_rfl) (by kernel_rfl),fun base μ w Vs hG hH hV=>?_⟩;obtain⟨X,_,rfl,hV,rfl⟩:=hV;simp only[aab] at hV;have hs:=hH.slot b _ hb;simp only[aap] at hs;obtain⟨cur,el,fr,g1,g2,g3,g4,g5⟩:=hs;obtain⟨g6,g7,g8,g9⟩:=g5 trivial;obtain⟨V,hV0,hr⟩:=g4 0 _ rfl;simp only[aab] at hr;obtain⟨XR,rfl⟩:=hV;rw[g6] at hr hV0;rw[g6];obtain⟨_,rfl⟩:=hr;refine(sL (μ b).blk w (by simp only[World.cell?,g1];exact hV0)).mono ?_;rintro e w' ⟨rfl,rfl⟩;exact⟨_,_,_,μ,rfl,by simp[aab,aad],hH,.refl (Nat.le_refl _),rfl,rfl⟩
theorem pD(mem:Mem)(b:Nat)(sl:AV)(hb:mem[b]? =some (.cells true nA [.aar,sl])):
  mB prog 269 [.ptr b 0] mem (.tuple []) (mem.set b (.cells true nA [.ptr b 0,sl])):=by
 refine⟨gC _ func269 (by kernel_rfl) (by kernel_rfl),fun base μ w Vs hG hH hV=>?_⟩;obtain⟨X,_,rfl,hV,rfl⟩:=hV;simp only[aab] at hV;have hs:=hH.slot b _ hb;simp only[aap] at hs;obtain⟨cur,el,fr,g1,g2,g3,g4,g5⟩:=hs;obtain⟨g6,rfl,g8,g9⟩:=g5 trivial;obtain⟨V,hV0,hr⟩:=g4 0 _ rfl;obtain⟨V1,hV1,WL⟩:=g4 1 _ rfl;simp only[aab] at hr;obtain⟨XR,rfl⟩:=hV;rw[g6] at hV0 hV1;rw[g6];subst hr;have hel:el=314:=by have:=g2.2 (by decide);exact Nat.succ.inj this
 subst hel;have hc0:w.cell? ⟨(μ b).blk,0,none⟩=some (.pointer none):=by simp only[World.cell?,g1];exact hV0
 have Xd:cur.size=2∨2<cur.size:=by simp only[List.length_cons,List.length_nil] at g3;omega
 refine(sj (μ b).blk w hc0 cur.size (by omega) (by simp only[World.shape?,g1]) (by simp[World.frozen?,g1])).mono ?_;rintro e w' ⟨rfl,rfl⟩;obtain⟨k1,k2⟩:=hH.write (w' :=w.setCell ⟨(μ b).blk,0,none⟩ (.pointer (some ⟨(μ b).blk,0,none⟩))) (s' :=.cells true nA [.ptr b 0,sl]) hb (ji hb) (fun _=>⟨_,List.getElem?_set_self (List.getElem?_eq_some_iff.1 hb).1,rfl⟩) rfl rfl rfl rfl (by simp[World.setCell]) (fun k hk=>by simp[World.setCell,Array.getElem?_modify,Ne.symm hk]) (by
  simp only[aap];refine⟨cur.setIfInBounds 0 (.pointer (some ⟨(μ b).blk,0,none⟩)),314,(0,0),by simp[World.setCell,Array.getElem?_modify,g1],g2,g3,fun j v hv=>?_,fun _=>⟨g6,rfl,by simpa using g8,g9⟩⟩
  match j,hv with
  |0,hv=>
   simp at hv;subst hv;refine⟨.pointer (some ⟨(μ b).blk,0,none⟩),?_,by simp[aab,XR,g6]⟩;rw[g6];have:0<cur.size:=by omega
   simp[this]
  |1,hv=>
   simp at hv;subst hv;refine⟨V1,?_,WL⟩;rw[g6];simpa using hV1
  |j+2,hv=>simp at hv)
 exact⟨_,_,_,μ,rfl,by simp[aab,aad],k1,k2,rfl,rfl⟩
end Go.Proofs
