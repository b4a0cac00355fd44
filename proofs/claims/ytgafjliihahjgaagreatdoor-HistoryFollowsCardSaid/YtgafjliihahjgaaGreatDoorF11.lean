/- See F54. -/
import Derived.Test.YtgafjliihahjgaaGreatDoorF10
import Derived.Shelf.Strings.Builder1
set_option linter.all false
set_option maxRecDepth 100000
set_option maxHeartbeats 40000000
namespace Go.Proofs
open Go.Eng
open Tryz
noncomputable def aV(t:TypeId)(k:Nat):Field:=match prog.underlying t with
 |some (.struct fs)=>fs.getD k default
 |_=>default
theorem VT:aN prog 23=some ⟨.array 2 22,2,2,.agg #[.int .i8 0,.int .i8 0],true⟩:=by kernel_rfl
noncomputable def tM:Field:=aV 25 0
theorem Iz:tM.type=5:=by kernel_rfl
theorem Iy:tM.offset=0:=by kernel_rfl
noncomputable def tN:Field:=aV 25 1
theorem IB:tN.type=23:=by kernel_rfl
theorem IA:tN.offset=1:=by kernel_rfl
noncomputable def tO:Field:=aV 25 2
theorem ID:tO.type=4:=by kernel_rfl
theorem IC:tO.offset=3:=by kernel_rfl
theorem VU:aN prog 25=some ⟨.struct #[tM,tN,tO],4,4,.agg #[.int .u8 0,.int .i8 0,.int .i8 0,.bool false],true⟩:=by kernel_rfl
noncomputable def tP:Field:=aV 28 0
theorem IF:tP.type=25:=by kernel_rfl
theorem IE:tP.offset=0:=by kernel_rfl
noncomputable def tQ:Field:=aV 28 1
theorem IH:tQ.type=26:=by kernel_rfl
theorem IG:tQ.offset=4:=by kernel_rfl
theorem VW:aN prog 28=some ⟨.struct #[tP,tQ],5,32,.agg #[.int .u8 0,.int .i8 0,.int .i8 0,.bool false,.slice none 0 0],true⟩:=by kernel_rfl
noncomputable def n9:Field:=aV 31 0
theorem IK:n9.type=29:=by kernel_rfl
theorem IJ:n9.offset=0:=by kernel_rfl
theorem II:(n9.name = "_")=False:=eq_false (by decide +kernel)
noncomputable def oa:Field:=aV 31 1
theorem IN:oa.type=29:=by kernel_rfl
theorem IM:oa.offset=1:=by kernel_rfl
theorem IL:(oa.name = "_")=False:=eq_false (by decide +kernel)
noncomputable def ob:Field:=aV 31 2
theorem IS:ob.type=29:=by kernel_rfl
theorem IQ:ob.offset=2:=by kernel_rfl
theorem IP:(ob.name = "_")=False:=eq_false (by decide +kernel)
theorem VY:aN prog 31=some ⟨.struct #[n9,oa,ob],3,48,.agg #[.string ⟨#[]⟩,.string ⟨#[]⟩,.string ⟨#[]⟩],true⟩:=by kernel_rfl
noncomputable def tS:Field:=aV 37 0
theorem IU:tS.type=34:=by kernel_rfl
theorem IT:tS.offset=0:=by kernel_rfl
noncomputable def tT:Field:=aV 37 1
theorem IW:tT.type=35:=by kernel_rfl
theorem IV:tT.offset=1:=by kernel_rfl
theorem V2:aN prog 37=some ⟨.struct #[tS,tT],2,48,.agg #[.slice none 0 0,.slice none 0 0],true⟩:=by kernel_rfl
noncomputable def tU:Field:=aV 40 0
theorem IY:tU.type=37:=by kernel_rfl
theorem IX:tU.offset=0:=by kernel_rfl
noncomputable def tV:Field:=aV 40 1
theorem I2:tV.type=9:=by kernel_rfl
theorem IZ:tV.offset=2:=by kernel_rfl
noncomputable def tW:Field:=aV 40 2
theorem I5:tW.type=38:=by kernel_rfl
theorem I3:tW.offset=3:=by kernel_rfl
theorem V5:aN prog 40=some ⟨.struct #[tU,tV,tW],4,88,.agg #[.slice none 0 0,.slice none 0 0,.string ⟨#[]⟩,.slice none 0 0],true⟩:=by kernel_rfl
noncomputable def tX:Field:=aV 47 0
theorem I7:tX.type=9:=by kernel_rfl
theorem I6:tX.offset=0:=by kernel_rfl
noncomputable def tY:Field:=aV 47 1
theorem I9:tY.type=45:=by kernel_rfl
theorem I8:tY.offset=1:=by kernel_rfl
noncomputable def tZ:Field:=aV 47 2
theorem Jb:tZ.type=3:=by kernel_rfl
theorem Ja:tZ.offset=2:=by kernel_rfl
noncomputable def ua:Field:=aV 47 3
theorem Jd:ua.type=31:=by kernel_rfl
theorem Jc:ua.offset=3:=by kernel_rfl
theorem V7:aN prog 47=some ⟨.struct #[tX,tY,tZ,ua],6,96,.agg #[.string ⟨#[]⟩,.slice none 0 0,.int .i64 0,.string ⟨#[]⟩,.string ⟨#[]⟩,.string ⟨#[]⟩],true⟩:=by kernel_rfl
theorem V8:aN prog 55=some ⟨.array 3 22,3,3,.agg #[.int .i8 0,.int .i8 0,.int .i8 0],true⟩:=by kernel_rfl
noncomputable def ud:Field:=aV 69 0
theorem Jf:ud.type=66:=by kernel_rfl
theorem Je:ud.offset=0:=by kernel_rfl
noncomputable def ue:Field:=aV 69 1
theorem Jh:ue.type=57:=by kernel_rfl
theorem Jg:ue.offset=1:=by kernel_rfl
noncomputable def uf:Field:=aV 69 2
theorem Jj:uf.type=67:=by kernel_rfl
theorem Ji:uf.offset=2:=by kernel_rfl
theorem Wd:aN prog 69=some ⟨.struct #[ud,ue,uf],3,72,.agg #[.slice none 0 0,.slice none 0 0,.slice none 0 0],true⟩:=by kernel_rfl
noncomputable def oc:Field:=aV 71 0
theorem Jm:oc.type=31:=by kernel_rfl
theorem Jl:oc.offset=0:=by kernel_rfl
theorem Jk:(oc.name = "_")=False:=eq_false (by decide +kernel)
noncomputable def od:Field:=aV 71 1
theorem Jp:od.type=29:=by kernel_rfl
theorem Jo:od.offset=3:=by kernel_rfl
theorem Jn:(od.name = "_")=False:=eq_false (by decide +kernel)
theorem We:aN prog 71=some ⟨.struct #[oc,od],4,64,.agg #[.string ⟨#[]⟩,.string ⟨#[]⟩,.string ⟨#[]⟩,.string ⟨#[]⟩],true⟩:=by kernel_rfl
noncomputable def og:Field:=aV 73 0
theorem Js:og.type=71:=by kernel_rfl
theorem Jr:og.offset=0:=by kernel_rfl
theorem Jq:(og.name = "_")=False:=eq_false (by decide +kernel)
noncomputable def oh:Field:=aV 73 1
theorem Jv:oh.type=31:=by kernel_rfl
theorem Ju:oh.offset=4:=by kernel_rfl
theorem Jt:(oh.name = "_")=False:=eq_false (by decide +kernel)
theorem Wf:aN prog 73=some ⟨.struct #[og,oh],7,112,.agg #[.string ⟨#[]⟩,.string ⟨#[]⟩,.string ⟨#[]⟩,.string ⟨#[]⟩,.string ⟨#[]⟩,.string ⟨#[]⟩,.string ⟨#[]⟩],true⟩:=by kernel_rfl
noncomputable def ug:Field:=aV 76 0
theorem Jx:ug.type=31:=by kernel_rfl
theorem Jw:ug.offset=0:=by kernel_rfl
noncomputable def uh:Field:=aV 76 1
theorem Jz:uh.type=74:=by kernel_rfl
theorem Jy:uh.offset=3:=by kernel_rfl
noncomputable def ui:Field:=aV 76 2
theorem JB:ui.type=31:=by kernel_rfl
theorem JA:ui.offset=4:=by kernel_rfl
theorem Wh:aN prog 76=some ⟨.struct #[ug,uh,ui],7,120,.agg #[.string ⟨#[]⟩,.string ⟨#[]⟩,.string ⟨#[]⟩,.slice none 0 0,.string ⟨#[]⟩,.string ⟨#[]⟩,.string ⟨#[]⟩],true⟩:=by kernel_rfl
noncomputable def om:Field:=aV 78 0
theorem JE:om.type=71:=by kernel_rfl
theorem JD:om.offset=0:=by kernel_rfl
theorem JC:(om.name = "_")=False:=eq_false (by decide +kernel)
noncomputable def oo:Field:=aV 78 1
theorem JH:oo.type=29:=by kernel_rfl
theorem JG:oo.offset=4:=by kernel_rfl
theorem JF:(oo.name = "_")=False:=eq_false (by decide +kernel)
noncomputable def ou:Field:=aV 78 2
theorem JK:ou.type=9:=by kernel_rfl
theorem JJ:ou.offset=5:=by kernel_rfl
theorem JI:(ou.name = "_")=False:=eq_false (by decide +kernel)
theorem Wi:aN prog 78=some ⟨.struct #[om,oo,ou],6,96,.agg #[.string ⟨#[]⟩,.string ⟨#[]⟩,.string ⟨#[]⟩,.string ⟨#[]⟩,.string ⟨#[]⟩,.string ⟨#[]⟩],true⟩:=by kernel_rfl
theorem Pt:aN prog 79=some ⟨.array 4 3,4,32,.agg #[.int .i64 0,.int .i64 0,.int .i64 0,.int .i64 0],true⟩:=by kernel_rfl
noncomputable def ov:Field:=aV 81 0
theorem JN:ov.type=79:=by kernel_rfl
theorem JM:ov.offset=0:=by kernel_rfl
theorem JL:(ov.name = "_")=False:=eq_false (by decide +kernel)
noncomputable def ow:Field:=aV 81 1
theorem JQ:ow.type=31:=by kernel_rfl
theorem JP:ow.offset=4:=by kernel_rfl
theorem JO:(ow.name = "_")=False:=eq_false (by decide +kernel)
theorem Wj:aN prog 81=some ⟨.struct #[ov,ow],7,80,.agg #[.int .i64 0,.int .i64 0,.int .i64 0,.int .i64 0,.string ⟨#[]⟩,.string ⟨#[]⟩,.string ⟨#[]⟩],true⟩:=by kernel_rfl
noncomputable def uj:Field:=aV 83 0
theorem JS:uj.type=3:=by kernel_rfl
theorem JR:uj.offset=0:=by kernel_rfl
noncomputable def uk:Field:=aV 83 1
theorem JU:uk.type=9:=by kernel_rfl
theorem JT:uk.offset=1:=by kernel_rfl
noncomputable def um:Field:=aV 83 2
theorem JW:um.type=69:=by kernel_rfl
theorem JV:um.offset=2:=by kernel_rfl
noncomputable def uo:Field:=aV 83 3
theorem JY:uo.type=73:=by kernel_rfl
theorem JX:uo.offset=5:=by kernel_rfl
noncomputable def ur:Field:=aV 83 4
theorem J0:ur.type=76:=by kernel_rfl
theorem JZ:ur.offset=12:=by kernel_rfl
noncomputable def ux:Field:=aV 83 5
theorem J2:ux.type=78:=by kernel_rfl
theorem J1:ux.offset=19:=by kernel_rfl
noncomputable def uy:Field:=aV 83 6
theorem J5:uy.type=81:=by kernel_rfl
theorem J4:uy.offset=25:=by kernel_rfl
theorem Wk:aN prog 83=some ⟨.struct #[uj,uk,um,uo,ur,ux,uy],32,504,.agg #[.int .i64 0,.string ⟨#[]⟩,.slice none 0 0,.slice none 0 0,.slice none 0 0,.string ⟨#[]⟩,.string ⟨#[]⟩,.string ⟨#[]⟩,.string ⟨#[]⟩,.string ⟨#[]⟩,.string ⟨#[]⟩,.string ⟨#[]⟩,.string ⟨#[]⟩,.string ⟨#[]⟩,.string ⟨#[]⟩,.slice none 0 0,.string ⟨#[]⟩,.string ⟨#[]⟩,.string ⟨#[]⟩,.string ⟨#[]⟩,.string ⟨#[]⟩,.string ⟨#[]⟩,.string ⟨#[]⟩,.string ⟨#[]⟩,.string ⟨#[]⟩,.int .i64 0,.int .i64 0,.int .i64 0,.int .i64 0,.string ⟨#[]⟩,.string ⟨#[]⟩,.string ⟨#[]⟩],true⟩:=by kernel_rfl
theorem Wl:aN prog 92=some ⟨.array 4 5,4,4,.agg #[.int .u8 0,.int .u8 0,.int .u8 0,.int .u8 0],true⟩:=by kernel_rfl
noncomputable def uz:Field:=aV 94 0
theorem J7:uz.type=5:=by kernel_rfl
theorem J6:uz.offset=0:=by kernel_rfl
noncomputable def uA:Field:=aV 94 1
theorem J9:uA.type=55:=by kernel_rfl
theorem J8:uA.offset=1:=by kernel_rfl
noncomputable def uB:Field:=aV 94 2
theorem Kb:uB.type=55:=by kernel_rfl
theorem Ka:uB.offset=4:=by kernel_rfl
noncomputable def uC:Field:=aV 94 3
theorem Kd:uC.type=22:=by kernel_rfl
theorem Kc:uC.offset=7:=by kernel_rfl
noncomputable def uD:Field:=aV 94 4
theorem Kf:uD.type=92:=by kernel_rfl
theorem Ke:uD.offset=8:=by kernel_rfl
theorem Wm:aN prog 94=some ⟨.struct #[uz,uA,uB,uC,uD],12,12,.agg #[.int .u8 0,.int .i8 0,.int .i8 0,.int .i8 0,.int .i8 0,.int .i8 0,.int .i8 0,.int .i8 0,.int .u8 0,.int .u8 0,.int .u8 0,.int .u8 0],true⟩:=by kernel_rfl
noncomputable def mi:Field:=aV 101 0
theorem Fy:mi.type=29:=by kernel_rfl
theorem Fx:mi.offset=0:=by kernel_rfl
theorem Fw:(mi.name = "_")=False:=eq_false (by decide +kernel)
noncomputable def mj:Field:=aV 101 1
theorem FB:mj.type=29:=by kernel_rfl
theorem FA:mj.offset=1:=by kernel_rfl
theorem Fz:(mj.name = "_")=False:=eq_false (by decide +kernel)
theorem TE:aN prog 101=some ⟨.struct #[mi,mj],2,32,.agg #[.string ⟨#[]⟩,.string ⟨#[]⟩],true⟩:=by kernel_rfl
theorem K9:aN prog 119=some ⟨.array 2 3,2,16,.agg #[.int .i64 0,.int .i64 0],true⟩:=by kernel_rfl
noncomputable def ml:Field:=aV 124 0
theorem FE:ml.type=29:=by kernel_rfl
theorem FD:ml.offset=0:=by kernel_rfl
theorem FC:(ml.name = "_")=False:=eq_false (by decide +kernel)
noncomputable def mq:Field:=aV 124 1
theorem FH:mq.type=29:=by kernel_rfl
theorem FG:mq.offset=1:=by kernel_rfl
theorem FF:(mq.name = "_")=False:=eq_false (by decide +kernel)
theorem TG:aN prog 124=some ⟨.struct #[ml,mq],2,32,.agg #[.string ⟨#[]⟩,.string ⟨#[]⟩],true⟩:=by kernel_rfl
theorem TJ:aN prog 148=some ⟨.array 3 3,3,24,.agg #[.int .i64 0,.int .i64 0,.int .i64 0],true⟩:=by kernel_rfl
theorem TK:aN prog 158=some ⟨.array 3 31,9,144,.agg #[.string ⟨#[]⟩,.string ⟨#[]⟩,.string ⟨#[]⟩,.string ⟨#[]⟩,.string ⟨#[]⟩,.string ⟨#[]⟩,.string ⟨#[]⟩,.string ⟨#[]⟩,.string ⟨#[]⟩],true⟩:=by kernel_rfl
noncomputable def qi:Field:=aV 160 0
theorem FJ:qi.type=158:=by kernel_rfl
theorem FI:qi.offset=0:=by kernel_rfl
noncomputable def qj:Field:=aV 160 1
theorem FL:qj.type=31:=by kernel_rfl
theorem FK:qj.offset=9:=by kernel_rfl
theorem TL:aN prog 160=some ⟨.struct #[qi,qj],12,192,.agg #[.string ⟨#[]⟩,.string ⟨#[]⟩,.string ⟨#[]⟩,.string ⟨#[]⟩,.string ⟨#[]⟩,.string ⟨#[]⟩,.string ⟨#[]⟩,.string ⟨#[]⟩,.string ⟨#[]⟩,.string ⟨#[]⟩,.string ⟨#[]⟩,.string ⟨#[]⟩],true⟩:=by kernel_rfl
theorem TO:aN prog 212=some ⟨.array 3 29,3,48,.agg #[.string ⟨#[]⟩,.string ⟨#[]⟩,.string ⟨#[]⟩],true⟩:=by kernel_rfl
theorem TP:aN prog 213=some ⟨.array 3 29,3,48,.agg #[.string ⟨#[]⟩,.string ⟨#[]⟩,.string ⟨#[]⟩],true⟩:=by kernel_rfl
theorem TQ:aN prog 215=some ⟨.array 3 213,9,144,.agg #[.string ⟨#[]⟩,.string ⟨#[]⟩,.string ⟨#[]⟩,.string ⟨#[]⟩,.string ⟨#[]⟩,.string ⟨#[]⟩,.string ⟨#[]⟩,.string ⟨#[]⟩,.string ⟨#[]⟩],true⟩:=by kernel_rfl
theorem TR:aN prog 259=some ⟨.array 3 101,6,96,.agg #[.string ⟨#[]⟩,.string ⟨#[]⟩,.string ⟨#[]⟩,.string ⟨#[]⟩,.string ⟨#[]⟩,.string ⟨#[]⟩],true⟩:=by kernel_rfl
noncomputable def qm:Field:=aV 364 0
theorem FN:qm.type=101:=by kernel_rfl
theorem FM:qm.offset=0:=by kernel_rfl
noncomputable def qo:Field:=aV 364 1
theorem FP:qo.type=29:=by kernel_rfl
theorem FO:qo.offset=2:=by kernel_rfl
theorem TV:aN prog 364=some ⟨.struct #[qm,qo],3,48,.agg #[.string ⟨#[]⟩,.string ⟨#[]⟩,.string ⟨#[]⟩],true⟩:=by kernel_rfl
theorem TW:aN prog 365=some ⟨.array 3 364,9,144,.agg #[.string ⟨#[]⟩,.string ⟨#[]⟩,.string ⟨#[]⟩,.string ⟨#[]⟩,.string ⟨#[]⟩,.string ⟨#[]⟩,.string ⟨#[]⟩,.string ⟨#[]⟩,.string ⟨#[]⟩],true⟩:=by kernel_rfl
attribute [simp] VT Iz
attribute [simp] Iy IB IA ID IC VU IF IE IH
attribute [simp] IG VW IK IJ II IN IM IL IS
attribute [simp] IQ IP VY IU IT IW IV V2
attribute [simp] IY IX I2 IZ I5 I3 V5
attribute [simp] I7 I6 I9 I8 Jb Ja Jd
attribute [simp] Jc V7 V8 Jf Je Jh Jg
attribute [simp] Jj Ji Wd Jm Jl Jk Jp Jo Jn We
attribute [simp] Js Jr Jq Jv Ju Jt Wf
attribute [simp] Jx Jw Jz Jy JB JA Wh
attribute [simp] JE JD JC JH JG JF JK JJ JI Wi Pt
attribute [simp] JN JM JL JQ JP JO Wj
attribute [simp] JS JR JU JT JW JV JY JX
attribute [simp] J0 JZ J2 J1 J5 J4 Wk Wl
attribute [simp] J7 J6 J9 J8 Kb Ka Kd Kc
attribute [simp] Kf Ke Wm Fy Fx Fw FB FA Fz TE K9
attribute [simp] FE FD FC FH FG FF TG TJ TK
attribute [simp] FJ FI FL FK TL TO TP TQ
attribute [simp] TR
attribute [simp] FN FM FP FO TV TW
end Go.Proofs
namespace Go.Proofs
open Go.Eng Go.Shelf Go.RowKit Go.Sort
open Tryz
theorem L4{P:Program}{e:TypeId}{n s d:Nat}(A:P.depth=d+1)(hs:P.cellsOf e=s+1)(G:sameLayout P P.depth e e=true)(H:1≤n):liesAt P P.depth e n 0 e 1=true:=by rw[A] at G;simp[A,liesAt,rowAt,hs,G,H]
theorem zt(n:Nat)(A:1≤n):liesAt prog prog.depth 291 n 0 291 1=true:=
 L4 (s:=1) (d:=prog.depth-1) (by kernel_rfl) (by kernel_rfl) (by kernel_rfl) A
theorem w8:prog.cellsOf 291=2:=by kernel_rfl
theorem pe:(prog.info? 291).map (·.size)=some 2:=by kernel_rfl
theorem tK(b:Nat)(w:World)(h0:w.cell? ⟨b,0,none⟩=some (.pointer (some ⟨b,0,none⟩))):
  Calls prog 266 #[.pointer (some ⟨b,0,none⟩)] w fun e w' =>e=.returned (.tuple #[])∧w' =w:=by
 obtain⟨j,Z,_⟩:=Option.map_eq_some_iff.1 pe
 go_enter func266,ntmps266
 go_wp2
 rw[Lib.run_neq_ptr_same w _ (tp:=289) (te:=291) (by kernel_rfl) Z]
 go_wp2
 go_end0
 exact⟨rfl,rfl⟩
theorem sL(b:Nat)(w:World)(h0:w.cell? ⟨b,0,none⟩=some (.pointer none))(n:Nat)(G:2≤n)(A:w.shape? b=some (291,n))(H:w.frozen? ⟨b,0,none⟩=false):
  Calls prog 266 #[.pointer (some ⟨b,0,none⟩)] w fun e w' =>e=.returned (.tuple #[])∧w' =w.setCell ⟨b,0,none⟩ (.pointer (some ⟨b,0,none⟩)):=by
 obtain⟨j,X,Z⟩:=Option.map_eq_some_iff.1 pe;have W:prog.underlying 289=some (.pointer 291):=by kernel_rfl
 have V:prog.underlying 347=some .unsafePointer:=by kernel_rfl
 go_enter func266,ntmps266
 go_wp2
 rw[Lib.run_to_unsafe w ⟨b,0,none⟩ W V X (by rw[Z];decide) A (Nat.lt_of_lt_of_le (Nat.zero_lt_succ 1) G)];simp only[Result.andThen];rw[Oper.upon_value]
 go_wp2
 rw[run_callFunc_extern func289 (by kernel_rfl) (by kernel_rfl) (by kernel_rfl) (e:=Extern.AbiNoEscape.same) (by kernel_rfl)];rw[Lib.run_noEscape];simp only[Result.andThen];rw[Oper.upon_value]
 go_wp2
 rw[Lib.run_from_unsafe w ⟨b,0,none⟩ V W X A (zt _ (by rw[w8];omega))];simp only[Result.andThen];rw[Oper.upon_value]
 go_wp2
 go_end0
 exact⟨rfl,rfl⟩
abbrev nX:Nat:=1000*(291+1)
theorem sK(mem:Mem)(b:Nat)(A:AV)(G:mem[b]? =some (.cells true nX [.ptr b 0,A])):
  kO prog 266 [.ptr b 0] mem (.tuple []) mem:=by
 refine⟨gO _ func266 (by kernel_rfl) (by kernel_rfl),fun base μ w Vs hG hH W=>?_⟩;obtain⟨X,_,rfl,W,rfl⟩:=W;simp only[aeU] at W;have O:=hH.slot b _ G;simp only[ae7] at O;obtain⟨K,el,B,J,z,g3,F,D⟩:=O;obtain⟨M,u,m,j⟩:=D trivial;obtain⟨V,Z,S⟩:=F 0 _ rfl;simp only[aeU] at S;obtain⟨C,rfl⟩:=W;rw[M] at S Z;rw[M];obtain⟨_,rfl⟩:=S;refine(tK (μ b).blk w (by simp only[World.cell?,J];exact Z)).mono ?_;rintro e w' ⟨rfl,rfl⟩;exact⟨_,_,_,μ,rfl,by simp[aeU,aeV],hH,.refl (Nat.le_refl _),rfl,rfl⟩
theorem pK(mem:Mem)(b:Nat)(G:AV)(A:mem[b]? =some (.cells true nX [.afd,G])):
  kO prog 266 [.ptr b 0] mem (.tuple []) (mem.set b (.cells true nX [.ptr b 0,G])):=by
 refine⟨gO _ func266 (by kernel_rfl) (by kernel_rfl),fun base μ w Vs hG hH K=>?_⟩;obtain⟨X,_,rfl,K,rfl⟩:=K;simp only[aeU] at K;have z:=hH.slot b _ A;simp only[ae7] at z;obtain⟨Z,el,fr,J,u,g3,m,R⟩:=z;obtain⟨S,rfl,I,H⟩:=R trivial;obtain⟨V,O,Y⟩:=m 0 _ rfl;obtain⟨V1,M,F⟩:=m 1 _ rfl;simp only[aeU] at Y;obtain⟨D,rfl⟩:=K;rw[S] at O M;rw[S];subst Y;have C:el=291:=by have:=u.2 (by decide);exact Nat.succ.inj this
 subst C;have B:w.cell? ⟨(μ b).blk,0,none⟩=some (.pointer none):=by simp only[World.cell?,J];exact O
 have hsz:Z.size=2∨2<Z.size:=by simp only[List.length_cons,List.length_nil] at g3;omega
 refine(sL (μ b).blk w B Z.size (by omega) (by simp only[World.shape?,J]) (by simp[World.frozen?,J])).mono ?_;rintro e w' ⟨rfl,rfl⟩;obtain⟨k1,k2⟩:=hH.write (w' :=w.setCell ⟨(μ b).blk,0,none⟩ (.pointer (some ⟨(μ b).blk,0,none⟩))) (s' :=.cells true nX [.ptr b 0,G]) A (jr A) (fun _=>⟨_,List.getElem?_set_self (gL A),rfl⟩) rfl rfl rfl rfl (by simp[World.setCell]) (fun k hk=>by simp[World.setCell,Array.getElem?_modify,Ne.symm hk]) (by
  simp only[ae7];refine⟨Z.setIfInBounds 0 (.pointer (some ⟨(μ b).blk,0,none⟩)),291,(0,0),by simp[World.setCell,Array.getElem?_modify,J],u,g3,fun j v W=>?_,fun _=>⟨S,rfl,by simpa using I,H⟩⟩
  match j,W with
  |0,W=>
   simp at W;subst W;refine⟨.pointer (some ⟨(μ b).blk,0,none⟩),?_,by simp[aeU,D,S]⟩;rw[S];have:0<Z.size:=by omega
   simp[this]
  |1,W=>
   simp at W;subst W;refine⟨V1,?_,F⟩;rw[S];simpa using M
  |j+2,W=>simp at W)
 exact⟨_,_,_,μ,rfl,by simp[aeU,aeV],k1,k2,rfl,rfl⟩
end Go.Proofs
