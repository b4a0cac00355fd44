/- See R54. -/
import Derived.Test.YtgafjliihahjgaaGreatDoorR15
import Derived.Shelf.Strings.Builder1
set_option linter.all false
set_option maxRecDepth 100000
set_option maxHeartbeats 40000000
namespace Go.Proofs
open Go.Eng
open Tryz
theorem TK:aM prog 23=some ⟨.array 2 22,2,2,.agg #[.int .i8 0,.int .i8 0],true⟩:=by kernel_rfl
noncomputable def su:Field:=match prog.underlying 25 with | some (.struct fs)=>fs.getD 0 default | _=>default
theorem GD:su.type=5:=by kernel_rfl
theorem GC:su.offset=0:=by kernel_rfl
noncomputable def sw:Field:=match prog.underlying 25 with | some (.struct fs)=>fs.getD 1 default | _=>default
theorem GG:sw.type=23:=by kernel_rfl
theorem GF:sw.offset=1:=by kernel_rfl
noncomputable def sE:Field:=match prog.underlying 25 with | some (.struct fs)=>fs.getD 2 default | _=>default
theorem GI:sE.type=4:=by kernel_rfl
theorem GH:sE.offset=3:=by kernel_rfl
theorem TL:aM prog 25=some ⟨.struct #[su,sw,sE],4,4,.agg #[.int .u8 0,.int .i8 0,.int .i8 0,.bool false],true⟩:=by kernel_rfl
noncomputable def sF:Field:=match prog.underlying 28 with | some (.struct fs)=>fs.getD 0 default | _=>default
theorem GK:sF.type=25:=by kernel_rfl
theorem GJ:sF.offset=0:=by kernel_rfl
noncomputable def sG:Field:=match prog.underlying 28 with | some (.struct fs)=>fs.getD 1 default | _=>default
theorem GM:sG.type=26:=by kernel_rfl
theorem GL:sG.offset=4:=by kernel_rfl
theorem TN:aM prog 28=some ⟨.struct #[sF,sG],5,32,.agg #[.int .u8 0,.int .i8 0,.int .i8 0,.bool false,.slice none 0 0],true⟩:=by kernel_rfl
noncomputable def nH:Field:=match prog.underlying 31 with | some (.struct fs)=>fs.getD 0 default | _=>default
theorem GP:nH.type=29:=by kernel_rfl
theorem GO:nH.offset=0:=by kernel_rfl
theorem GN:(nH.name = "_")=False:=eq_false (by decide +kernel)
noncomputable def nI:Field:=match prog.underlying 31 with | some (.struct fs)=>fs.getD 1 default | _=>default
theorem GS:nI.type=29:=by kernel_rfl
theorem GR:nI.offset=1:=by kernel_rfl
theorem GQ:(nI.name = "_")=False:=eq_false (by decide +kernel)
noncomputable def nJ:Field:=match prog.underlying 31 with | some (.struct fs)=>fs.getD 2 default | _=>default
theorem GW:nJ.type=29:=by kernel_rfl
theorem GV:nJ.offset=2:=by kernel_rfl
theorem GU:(nJ.name = "_")=False:=eq_false (by decide +kernel)
theorem TP:aM prog 31=some ⟨.struct #[nH,nI,nJ],3,48,.agg #[.string ⟨#[]⟩,.string ⟨#[]⟩,.string ⟨#[]⟩],true⟩:=by kernel_rfl
noncomputable def sH:Field:=match prog.underlying 37 with | some (.struct fs)=>fs.getD 0 default | _=>default
theorem GY:sH.type=34:=by kernel_rfl
theorem GX:sH.offset=0:=by kernel_rfl
noncomputable def sI:Field:=match prog.underlying 37 with | some (.struct fs)=>fs.getD 1 default | _=>default
theorem G0:sI.type=35:=by kernel_rfl
theorem GZ:sI.offset=1:=by kernel_rfl
theorem TT:aM prog 37=some ⟨.struct #[sH,sI],2,48,.agg #[.slice none 0 0,.slice none 0 0],true⟩:=by kernel_rfl
noncomputable def sJ:Field:=match prog.underlying 40 with | some (.struct fs)=>fs.getD 0 default | _=>default
theorem G6:sJ.type=37:=by kernel_rfl
theorem G4:sJ.offset=0:=by kernel_rfl
noncomputable def sK:Field:=match prog.underlying 40 with | some (.struct fs)=>fs.getD 1 default | _=>default
theorem G9:sK.type=9:=by kernel_rfl
theorem G8:sK.offset=2:=by kernel_rfl
noncomputable def sL:Field:=match prog.underlying 40 with | some (.struct fs)=>fs.getD 2 default | _=>default
theorem Hb:sL.type=38:=by kernel_rfl
theorem Ha:sL.offset=3:=by kernel_rfl
theorem TV:aM prog 40=some ⟨.struct #[sJ,sK,sL],4,88,.agg #[.slice none 0 0,.slice none 0 0,.string ⟨#[]⟩,.slice none 0 0],true⟩:=by kernel_rfl
noncomputable def sM:Field:=match prog.underlying 47 with | some (.struct fs)=>fs.getD 0 default | _=>default
theorem Hd:sM.type=9:=by kernel_rfl
theorem Hc:sM.offset=0:=by kernel_rfl
noncomputable def sN:Field:=match prog.underlying 47 with | some (.struct fs)=>fs.getD 1 default | _=>default
theorem Hf:sN.type=45:=by kernel_rfl
theorem He:sN.offset=1:=by kernel_rfl
noncomputable def sO:Field:=match prog.underlying 47 with | some (.struct fs)=>fs.getD 2 default | _=>default
theorem Hh:sO.type=3:=by kernel_rfl
theorem Hg:sO.offset=2:=by kernel_rfl
noncomputable def sP:Field:=match prog.underlying 47 with | some (.struct fs)=>fs.getD 3 default | _=>default
theorem Hk:sP.type=31:=by kernel_rfl
theorem Hj:sP.offset=3:=by kernel_rfl
theorem TX:aM prog 47=some ⟨.struct #[sM,sN,sO,sP],6,96,.agg #[.string ⟨#[]⟩,.slice none 0 0,.int .i64 0,.string ⟨#[]⟩,.string ⟨#[]⟩,.string ⟨#[]⟩],true⟩:=by kernel_rfl
theorem TY:aM prog 55=some ⟨.array 3 22,3,3,.agg #[.int .i8 0,.int .i8 0,.int .i8 0],true⟩:=by kernel_rfl
noncomputable def sQ:Field:=match prog.underlying 69 with | some (.struct fs)=>fs.getD 0 default | _=>default
theorem Hm:sQ.type=66:=by kernel_rfl
theorem Hl:sQ.offset=0:=by kernel_rfl
noncomputable def sR:Field:=match prog.underlying 69 with | some (.struct fs)=>fs.getD 1 default | _=>default
theorem Ho:sR.type=57:=by kernel_rfl
theorem Hn:sR.offset=1:=by kernel_rfl
noncomputable def sT:Field:=match prog.underlying 69 with | some (.struct fs)=>fs.getD 2 default | _=>default
theorem Hq:sT.type=67:=by kernel_rfl
theorem Hp:sT.offset=2:=by kernel_rfl
theorem T3:aM prog 69=some ⟨.struct #[sQ,sR,sT],3,72,.agg #[.slice none 0 0,.slice none 0 0,.slice none 0 0],true⟩:=by kernel_rfl
noncomputable def nK:Field:=match prog.underlying 71 with | some (.struct fs)=>fs.getD 0 default | _=>default
theorem Ht:nK.type=31:=by kernel_rfl
theorem Hs:nK.offset=0:=by kernel_rfl
theorem Hr:(nK.name = "_")=False:=eq_false (by decide +kernel)
noncomputable def nL:Field:=match prog.underlying 71 with | some (.struct fs)=>fs.getD 1 default | _=>default
theorem Hw:nL.type=29:=by kernel_rfl
theorem Hv:nL.offset=3:=by kernel_rfl
theorem Hu:(nL.name = "_")=False:=eq_false (by decide +kernel)
theorem T6:aM prog 71=some ⟨.struct #[nK,nL],4,64,.agg #[.string ⟨#[]⟩,.string ⟨#[]⟩,.string ⟨#[]⟩,.string ⟨#[]⟩],true⟩:=by kernel_rfl
noncomputable def nM:Field:=match prog.underlying 73 with | some (.struct fs)=>fs.getD 0 default | _=>default
theorem Hz:nM.type=71:=by kernel_rfl
theorem Hy:nM.offset=0:=by kernel_rfl
theorem Hx:(nM.name = "_")=False:=eq_false (by decide +kernel)
noncomputable def nN:Field:=match prog.underlying 73 with | some (.struct fs)=>fs.getD 1 default | _=>default
theorem HD:nN.type=31:=by kernel_rfl
theorem HC:nN.offset=4:=by kernel_rfl
theorem HA:(nN.name = "_")=False:=eq_false (by decide +kernel)
theorem T7:aM prog 73=some ⟨.struct #[nM,nN],7,112,.agg #[.string ⟨#[]⟩,.string ⟨#[]⟩,.string ⟨#[]⟩,.string ⟨#[]⟩,.string ⟨#[]⟩,.string ⟨#[]⟩,.string ⟨#[]⟩],true⟩:=by kernel_rfl
noncomputable def sV:Field:=match prog.underlying 76 with | some (.struct fs)=>fs.getD 0 default | _=>default
theorem HF:sV.type=31:=by kernel_rfl
theorem HE:sV.offset=0:=by kernel_rfl
noncomputable def sW:Field:=match prog.underlying 76 with | some (.struct fs)=>fs.getD 1 default | _=>default
theorem HH:sW.type=74:=by kernel_rfl
theorem HG:sW.offset=3:=by kernel_rfl
noncomputable def sX:Field:=match prog.underlying 76 with | some (.struct fs)=>fs.getD 2 default | _=>default
theorem HJ:sX.type=31:=by kernel_rfl
theorem HI:sX.offset=4:=by kernel_rfl
theorem T9:aM prog 76=some ⟨.struct #[sV,sW,sX],7,120,.agg #[.string ⟨#[]⟩,.string ⟨#[]⟩,.string ⟨#[]⟩,.slice none 0 0,.string ⟨#[]⟩,.string ⟨#[]⟩,.string ⟨#[]⟩],true⟩:=by kernel_rfl
noncomputable def nO:Field:=match prog.underlying 78 with | some (.struct fs)=>fs.getD 0 default | _=>default
theorem HM:nO.type=71:=by kernel_rfl
theorem HL:nO.offset=0:=by kernel_rfl
theorem HK:(nO.name = "_")=False:=eq_false (by decide +kernel)
noncomputable def nP:Field:=match prog.underlying 78 with | some (.struct fs)=>fs.getD 1 default | _=>default
theorem HP:nP.type=29:=by kernel_rfl
theorem HO:nP.offset=4:=by kernel_rfl
theorem HN:(nP.name = "_")=False:=eq_false (by decide +kernel)
noncomputable def nQ:Field:=match prog.underlying 78 with | some (.struct fs)=>fs.getD 2 default | _=>default
theorem HT:nQ.type=9:=by kernel_rfl
theorem HR:nQ.offset=5:=by kernel_rfl
theorem HQ:(nQ.name = "_")=False:=eq_false (by decide +kernel)
theorem Ua:aM prog 78=some ⟨.struct #[nO,nP,nQ],6,96,.agg #[.string ⟨#[]⟩,.string ⟨#[]⟩,.string ⟨#[]⟩,.string ⟨#[]⟩,.string ⟨#[]⟩,.string ⟨#[]⟩],true⟩:=by kernel_rfl
theorem M9:aM prog 79=some ⟨.array 4 3,4,32,.agg #[.int .i64 0,.int .i64 0,.int .i64 0,.int .i64 0],true⟩:=by kernel_rfl
noncomputable def nS:Field:=match prog.underlying 81 with | some (.struct fs)=>fs.getD 0 default | _=>default
theorem HW:nS.type=79:=by kernel_rfl
theorem HV:nS.offset=0:=by kernel_rfl
theorem HU:(nS.name = "_")=False:=eq_false (by decide +kernel)
noncomputable def nT:Field:=match prog.underlying 81 with | some (.struct fs)=>fs.getD 1 default | _=>default
theorem HZ:nT.type=31:=by kernel_rfl
theorem HY:nT.offset=4:=by kernel_rfl
theorem HX:(nT.name = "_")=False:=eq_false (by decide +kernel)
theorem Ub:aM prog 81=some ⟨.struct #[nS,nT],7,80,.agg #[.int .i64 0,.int .i64 0,.int .i64 0,.int .i64 0,.string ⟨#[]⟩,.string ⟨#[]⟩,.string ⟨#[]⟩],true⟩:=by kernel_rfl
noncomputable def sY:Field:=match prog.underlying 83 with | some (.struct fs)=>fs.getD 0 default | _=>default
theorem H7:sY.type=3:=by kernel_rfl
theorem H0:sY.offset=0:=by kernel_rfl
noncomputable def sZ:Field:=match prog.underlying 83 with | some (.struct fs)=>fs.getD 1 default | _=>default
theorem H9:sZ.type=9:=by kernel_rfl
theorem H8:sZ.offset=1:=by kernel_rfl
noncomputable def tf:Field:=match prog.underlying 83 with | some (.struct fs)=>fs.getD 2 default | _=>default
theorem Ib:tf.type=69:=by kernel_rfl
theorem Ia:tf.offset=2:=by kernel_rfl
noncomputable def tg:Field:=match prog.underlying 83 with | some (.struct fs)=>fs.getD 3 default | _=>default
theorem Ie:tg.type=73:=by kernel_rfl
theorem Ic:tg.offset=5:=by kernel_rfl
noncomputable def th:Field:=match prog.underlying 83 with | some (.struct fs)=>fs.getD 4 default | _=>default
theorem Ig:th.type=76:=by kernel_rfl
theorem If:th.offset=12:=by kernel_rfl
noncomputable def tq:Field:=match prog.underlying 83 with | some (.struct fs)=>fs.getD 5 default | _=>default
theorem Ii:tq.type=78:=by kernel_rfl
theorem Ih:tq.offset=19:=by kernel_rfl
noncomputable def tt:Field:=match prog.underlying 83 with | some (.struct fs)=>fs.getD 6 default | _=>default
theorem Ik:tt.type=81:=by kernel_rfl
theorem Ij:tt.offset=25:=by kernel_rfl
theorem Uc:aM prog 83=some ⟨.struct #[sY,sZ,tf,tg,th,tq,tt],32,504,.agg #[.int .i64 0,.string ⟨#[]⟩,.slice none 0 0,.slice none 0 0,.slice none 0 0,.string ⟨#[]⟩,.string ⟨#[]⟩,.string ⟨#[]⟩,.string ⟨#[]⟩,.string ⟨#[]⟩,.string ⟨#[]⟩,.string ⟨#[]⟩,.string ⟨#[]⟩,.string ⟨#[]⟩,.string ⟨#[]⟩,.slice none 0 0,.string ⟨#[]⟩,.string ⟨#[]⟩,.string ⟨#[]⟩,.string ⟨#[]⟩,.string ⟨#[]⟩,.string ⟨#[]⟩,.string ⟨#[]⟩,.string ⟨#[]⟩,.string ⟨#[]⟩,.int .i64 0,.int .i64 0,.int .i64 0,.int .i64 0,.string ⟨#[]⟩,.string ⟨#[]⟩,.string ⟨#[]⟩],true⟩:=by kernel_rfl
theorem Ud:aM prog 92=some ⟨.array 4 5,4,4,.agg #[.int .u8 0,.int .u8 0,.int .u8 0,.int .u8 0],true⟩:=by kernel_rfl
noncomputable def tw:Field:=match prog.underlying 94 with | some (.struct fs)=>fs.getD 0 default | _=>default
theorem Im:tw.type=5:=by kernel_rfl
theorem Il:tw.offset=0:=by kernel_rfl
noncomputable def tx:Field:=match prog.underlying 94 with | some (.struct fs)=>fs.getD 1 default | _=>default
theorem Ip:tx.type=55:=by kernel_rfl
theorem Io:tx.offset=1:=by kernel_rfl
noncomputable def tz:Field:=match prog.underlying 94 with | some (.struct fs)=>fs.getD 2 default | _=>default
theorem Ir:tz.type=55:=by kernel_rfl
theorem Iq:tz.offset=4:=by kernel_rfl
noncomputable def tA:Field:=match prog.underlying 94 with | some (.struct fs)=>fs.getD 3 default | _=>default
theorem It:tA.type=22:=by kernel_rfl
theorem Is:tA.offset=7:=by kernel_rfl
noncomputable def tB:Field:=match prog.underlying 94 with | some (.struct fs)=>fs.getD 4 default | _=>default
theorem Iv:tB.type=92:=by kernel_rfl
theorem Iu:tB.offset=8:=by kernel_rfl
theorem Ue:aM prog 94=some ⟨.struct #[tw,tx,tz,tA,tB],12,12,.agg #[.int .u8 0,.int .i8 0,.int .i8 0,.int .i8 0,.int .i8 0,.int .i8 0,.int .i8 0,.int .i8 0,.int .u8 0,.int .u8 0,.int .u8 0,.int .u8 0],true⟩:=by kernel_rfl
noncomputable def me:Field:=match prog.underlying 101 with | some (.struct fs)=>fs.getD 0 default | _=>default
theorem Ei:me.type=29:=by kernel_rfl
theorem Eh:me.offset=0:=by kernel_rfl
theorem Eg:(me.name = "_")=False:=eq_false (by decide +kernel)
noncomputable def mf:Field:=match prog.underlying 101 with | some (.struct fs)=>fs.getD 1 default | _=>default
theorem El:mf.type=29:=by kernel_rfl
theorem Ek:mf.offset=1:=by kernel_rfl
theorem Ej:(mf.name = "_")=False:=eq_false (by decide +kernel)
theorem Rt:aM prog 101=some ⟨.struct #[me,mf],2,32,.agg #[.string ⟨#[]⟩,.string ⟨#[]⟩],true⟩:=by kernel_rfl
theorem Jl:aM prog 119=some ⟨.array 2 3,2,16,.agg #[.int .i64 0,.int .i64 0],true⟩:=by kernel_rfl
noncomputable def mg:Field:=match prog.underlying 124 with | some (.struct fs)=>fs.getD 0 default | _=>default
theorem Ep:mg.type=29:=by kernel_rfl
theorem Eo:mg.offset=0:=by kernel_rfl
theorem Em:(mg.name = "_")=False:=eq_false (by decide +kernel)
noncomputable def mh:Field:=match prog.underlying 124 with | some (.struct fs)=>fs.getD 1 default | _=>default
theorem Eu:mh.type=29:=by kernel_rfl
theorem Et:mh.offset=1:=by kernel_rfl
theorem Er:(mh.name = "_")=False:=eq_false (by decide +kernel)
theorem Rv:aM prog 124=some ⟨.struct #[mg,mh],2,32,.agg #[.string ⟨#[]⟩,.string ⟨#[]⟩],true⟩:=by kernel_rfl
theorem Ry:aM prog 148=some ⟨.array 3 3,3,24,.agg #[.int .i64 0,.int .i64 0,.int .i64 0],true⟩:=by kernel_rfl
theorem RB:aM prog 212=some ⟨.array 3 29,3,48,.agg #[.string ⟨#[]⟩,.string ⟨#[]⟩,.string ⟨#[]⟩],true⟩:=by kernel_rfl
theorem RC:aM prog 213=some ⟨.array 3 29,3,48,.agg #[.string ⟨#[]⟩,.string ⟨#[]⟩,.string ⟨#[]⟩],true⟩:=by kernel_rfl
attribute [simp] TK GD
attribute [simp] GC GG GF GI GH TL GK GJ GM
attribute [simp] GL TN GP GO GN GS GR GQ GW
attribute [simp] GV GU TP GY GX G0 GZ TT
attribute [simp] G6 G4 G9 G8 Hb Ha TV
attribute [simp] Hd Hc Hf He Hh Hg Hk
attribute [simp] Hj TX TY Hm Hl Ho Hn
attribute [simp] Hq Hp T3 Ht Hs Hr Hw Hv Hu T6
attribute [simp] Hz Hy Hx HD HC HA T7
attribute [simp] HF HE HH HG HJ HI T9
attribute [simp] HM HL HK HP HO HN HT HR HQ Ua M9
attribute [simp] HW HV HU HZ HY HX Ub
attribute [simp] H7 H0 H9 H8 Ib Ia Ie Ic
attribute [simp] Ig If Ii Ih Ik Ij Uc Ud
attribute [simp] Im Il Ip Io Ir Iq It Is
attribute [simp] Iv Iu Ue Ei Eh Eg El Ek Ej Rt Jl
attribute [simp] Ep Eo Em Eu Et Er Rv Ry
attribute [simp] RB RC
end Go.Proofs
namespace Go.Proofs
open Go.Eng Go.Shelf Go.RowKit Go.Sort
open Tryz
theorem Kc{P:Program}{e:TypeId}{n s d:Nat}(hd:P.depth=d+1)(hs:P.cellsOf e=s+1)(hl:sameLayout P P.depth e e=true)(hn:1≤n):liesAt P P.depth e n 0 e 1=true:=by rw[hd] at hl;simp[hd,liesAt,rowAt,hs,hl,hn]
theorem yk(n:Nat)(hn:1≤n):liesAt prog prog.depth 291 n 0 291 1=true:=
 Kc (s:=1) (d:=prog.depth-1) (by kernel_rfl) (by kernel_rfl) (by kernel_rfl) hn
theorem vO:prog.cellsOf 291=2:=by kernel_rfl
theorem oG:(prog.info? 291).map (·.size)=some 2:=by kernel_rfl
theorem sr(b:Nat)(w:World)(h0:w.cell? ⟨b,0,none⟩=some (.pointer (some ⟨b,0,none⟩))):
  Calls prog 266 #[.pointer (some ⟨b,0,none⟩)] w fun e w' =>e=.returned (.tuple #[])∧w' =w:=by
 obtain⟨j,hj,_⟩:=Option.map_eq_some_iff.1 oG
 go_enter func266,ntmps266
 go_wp2
 rw[Lib.run_neq_ptr_same w _ (tp:=289) (te:=291) (by kernel_rfl) hj]
 go_wp2
 go_end0
 exact⟨rfl,rfl⟩
theorem rJ(b:Nat)(w:World)(h0:w.cell? ⟨b,0,none⟩=some (.pointer none))(n:Nat)(hn:2≤n)(ZY:w.shape? b=some (291,n))(hfz:w.frozen? ⟨b,0,none⟩=false):
  Calls prog 266 #[.pointer (some ⟨b,0,none⟩)] w fun e w' =>e=.returned (.tuple #[])∧w' =w.setCell ⟨b,0,none⟩ (.pointer (some ⟨b,0,none⟩)):=by
 obtain⟨j,hj,hjs⟩:=Option.map_eq_some_iff.1 oG;have tp:prog.underlying 289=some (.pointer 291):=by kernel_rfl
 have tu:prog.underlying 347=some .unsafePointer:=by kernel_rfl
 go_enter func266,ntmps266
 go_wp2
 rw[Lib.run_to_unsafe w ⟨b,0,none⟩ tp tu hj (by rw[hjs];decide) ZY (Nat.lt_of_lt_of_le (Nat.zero_lt_succ 1) hn)];simp only[Result.andThen];rw[Oper.upon_value]
 go_wp2
 rw[run_callFunc_extern func289 (by kernel_rfl) (by kernel_rfl) (by kernel_rfl) (e:=Extern.AbiNoEscape.same) (by kernel_rfl)];rw[Lib.run_noEscape];simp only[Result.andThen];rw[Oper.upon_value]
 go_wp2
 rw[Lib.run_from_unsafe w ⟨b,0,none⟩ tu tp hj ZY (yk _ (by rw[vO];omega))];simp only[Result.andThen];rw[Oper.upon_value]
 go_wp2
 go_end0
 exact⟨rfl,rfl⟩
abbrev nC:Nat:=1000*(291+1)
theorem rI(mem:Mem)(b:Nat)(sl:AV)(hb:mem[b]? =some (.cells true nC [.ptr b 0,sl])):
  kF prog 266 [.ptr b 0] mem (.tuple []) mem:=by
 refine⟨gG _ func266 (by kernel_rfl) (by kernel_rfl),fun base μ w Vs hG hH hV=>?_⟩;obtain⟨X,_,rfl,hV,rfl⟩:=hV;simp only[aeA] at hV;have hs:=hH.slot b _ hb;simp only[aeO] at hs;obtain⟨cur,el,fr,g1,g2,g3,g4,g5⟩:=hs;obtain⟨g6,g7,g8,g9⟩:=g5 trivial;obtain⟨V,hV0,hr⟩:=g4 0 _ rfl;simp only[aeA] at hr;obtain⟨Y0,rfl⟩:=hV;rw[g6] at hr hV0;rw[g6];obtain⟨_,rfl⟩:=hr;refine(sr (μ b).blk w (by simp only[World.cell?,g1];exact hV0)).mono ?_;rintro e w' ⟨rfl,rfl⟩;exact⟨_,_,_,μ,rfl,by simp[aeA,aeC],hH,.refl (Nat.le_refl _),rfl,rfl⟩
theorem o9(mem:Mem)(b:Nat)(sl:AV)(hb:mem[b]? =some (.cells true nC [.aeT,sl])):
  kF prog 266 [.ptr b 0] mem (.tuple []) (mem.set b (.cells true nC [.ptr b 0,sl])):=by
 refine⟨gG _ func266 (by kernel_rfl) (by kernel_rfl),fun base μ w Vs hG hH hV=>?_⟩;obtain⟨X,_,rfl,hV,rfl⟩:=hV;simp only[aeA] at hV;have hs:=hH.slot b _ hb;simp only[aeO] at hs;obtain⟨cur,el,fr,g1,g2,g3,g4,g5⟩:=hs;obtain⟨g6,rfl,g8,g9⟩:=g5 trivial;obtain⟨V,hV0,hr⟩:=g4 0 _ rfl;obtain⟨V1,hV1,Ya⟩:=g4 1 _ rfl;simp only[aeA] at hr;obtain⟨Y0,rfl⟩:=hV;rw[g6] at hV0 hV1;rw[g6];subst hr;have hel:el=291:=by have:=g2.2 (by decide);exact Nat.succ.inj this
 subst hel;have hc0:w.cell? ⟨(μ b).blk,0,none⟩=some (.pointer none):=by simp only[World.cell?,g1];exact hV0
 have Yw:cur.size=2∨2<cur.size:=by simp only[List.length_cons,List.length_nil] at g3;omega
 refine(rJ (μ b).blk w hc0 cur.size (by omega) (by simp only[World.shape?,g1]) (by simp[World.frozen?,g1])).mono ?_;rintro e w' ⟨rfl,rfl⟩;obtain⟨k1,k2⟩:=hH.write (w' :=w.setCell ⟨(μ b).blk,0,none⟩ (.pointer (some ⟨(μ b).blk,0,none⟩))) (s' :=.cells true nC [.ptr b 0,sl]) hb (jm hb) (fun _=>⟨_,List.getElem?_set_self (gL hb),rfl⟩) rfl rfl rfl rfl (by simp[World.setCell]) (fun k hk=>by simp[World.setCell,Array.getElem?_modify,Ne.symm hk]) (by
  simp only[aeO];refine⟨cur.setIfInBounds 0 (.pointer (some ⟨(μ b).blk,0,none⟩)),291,(0,0),by simp[World.setCell,Array.getElem?_modify,g1],g2,g3,fun j v hv=>?_,fun _=>⟨g6,rfl,by simpa using g8,g9⟩⟩
  match j,hv with
  |0,hv=>
   simp at hv;subst hv;refine⟨.pointer (some ⟨(μ b).blk,0,none⟩),?_,by simp[aeA,Y0,g6]⟩;rw[g6];have:0<cur.size:=by omega
   simp[this]
  |1,hv=>
   simp at hv;subst hv;refine⟨V1,?_,Ya⟩;rw[g6];simpa using hV1
  |j+2,hv=>simp at hv)
 exact⟨_,_,_,μ,rfl,by simp[aeA,aeC],k1,k2,rfl,rfl⟩
end Go.Proofs
