/- See G38. -/
import Derived.Test.YthpgbelancmpjaaGreatDoorG11
import Derived.Test.YthpgbelancmpjaaGreatDoorG12
import Derived.Shelf.Strings.Builder1
set_option linter.all false
set_option maxRecDepth 100000
set_option maxHeartbeats 40000000
namespace Go.Proofs
open Go.Eng
open Tryz
noncomputable def bq(t:TypeId)(k:Nat):Field:=match prog.underlying t with
 |some (.struct fs)=>fs.getD k default
 |_=>default
theorem U0:aX prog 23=some ⟨.array 2 22,2,2,.agg #[.int .i8 0,.int .i8 0],true⟩:=by kernel_rfl
noncomputable def ui:Field:=bq 25 0
theorem ID:ui.type=5:=by kernel_rfl
theorem IC:ui.offset=0:=by kernel_rfl
noncomputable def uj:Field:=bq 25 1
theorem IF:uj.type=23:=by kernel_rfl
theorem IE:uj.offset=1:=by kernel_rfl
noncomputable def uk:Field:=bq 25 2
theorem IH:uk.type=4:=by kernel_rfl
theorem IG:uk.offset=3:=by kernel_rfl
theorem U1:aX prog 25=some ⟨.struct #[ui,uj,uk],4,4,.agg #[.int .u8 0,.int .i8 0,.int .i8 0,.bool false],true⟩:=by kernel_rfl
theorem U2:aX prog 26=some ⟨.array 6 22,6,6,.agg #[.int .i8 0,.int .i8 0,.int .i8 0,.int .i8 0,.int .i8 0,.int .i8 0],true⟩:=by kernel_rfl
noncomputable def uq:Field:=bq 28 0
theorem IJ:uq.type=26:=by kernel_rfl
theorem II:uq.offset=0:=by kernel_rfl
noncomputable def ur:Field:=bq 28 1
theorem IL:ur.type=4:=by kernel_rfl
theorem IK:ur.offset=6:=by kernel_rfl
theorem U3:aX prog 28=some ⟨.struct #[uq,ur],7,7,.agg #[.int .i8 0,.int .i8 0,.int .i8 0,.int .i8 0,.int .i8 0,.int .i8 0,.bool false],true⟩:=by kernel_rfl
theorem U4:aX prog 29=some ⟨.array 2 28,14,14,.agg #[.int .i8 0,.int .i8 0,.int .i8 0,.int .i8 0,.int .i8 0,.int .i8 0,.bool false,.int .i8 0,.int .i8 0,.int .i8 0,.int .i8 0,.int .i8 0,.int .i8 0,.bool false],true⟩:=by kernel_rfl
theorem U5:aX prog 30=some ⟨.array 8 22,8,8,.agg #[.int .i8 0,.int .i8 0,.int .i8 0,.int .i8 0,.int .i8 0,.int .i8 0,.int .i8 0,.int .i8 0],true⟩:=by kernel_rfl
theorem U6:aX prog 32=some ⟨.array 4 22,4,4,.agg #[.int .i8 0,.int .i8 0,.int .i8 0,.int .i8 0],true⟩:=by kernel_rfl
noncomputable def uu:Field:=bq 34 0
theorem IN:uu.type=5:=by kernel_rfl
theorem IM:uu.offset=0:=by kernel_rfl
noncomputable def uw:Field:=bq 34 1
theorem IQ:uw.type=28:=by kernel_rfl
theorem IP:uw.offset=1:=by kernel_rfl
noncomputable def ux:Field:=bq 34 2
theorem IT:ux.type=29:=by kernel_rfl
theorem IS:ux.offset=8:=by kernel_rfl
noncomputable def uy:Field:=bq 34 3
theorem IV:uy.type=30:=by kernel_rfl
theorem IU:uy.offset=22:=by kernel_rfl
noncomputable def uz:Field:=bq 34 4
theorem IX:uz.type=32:=by kernel_rfl
theorem IW:uz.offset=30:=by kernel_rfl
theorem U7:aX prog 34=some ⟨.struct #[uu,uw,ux,uy,uz],34,34,.agg #[.int .u8 0,.int .i8 0,.int .i8 0,.int .i8 0,.int .i8 0,.int .i8 0,.int .i8 0,.bool false,.int .i8 0,.int .i8 0,.int .i8 0,.int .i8 0,.int .i8 0,.int .i8 0,.bool false,.int .i8 0,.int .i8 0,.int .i8 0,.int .i8 0,.int .i8 0,.int .i8 0,.bool false,.int .i8 0,.int .i8 0,.int .i8 0,.int .i8 0,.int .i8 0,.int .i8 0,.int .i8 0,.int .i8 0,.int .i8 0,.int .i8 0,.int .i8 0,.int .i8 0],true⟩:=by kernel_rfl
noncomputable def uA:Field:=bq 37 0
theorem IZ:uA.type=35:=by kernel_rfl
theorem IY:uA.offset=0:=by kernel_rfl
noncomputable def uB:Field:=bq 37 1
theorem I3:uB.type=5:=by kernel_rfl
theorem I2:uB.offset=1:=by kernel_rfl
theorem U9:aX prog 37=some ⟨.struct #[uA,uB],2,4,.agg #[.int .i16 0,.int .u8 0],true⟩:=by kernel_rfl
theorem Va:aX prog 39=some ⟨.array 3 37,6,12,.agg #[.int .i16 0,.int .u8 0,.int .i16 0,.int .u8 0,.int .i16 0,.int .u8 0],true⟩:=by kernel_rfl
noncomputable def uC:Field:=bq 44 0
theorem I6:uC.type=41:=by kernel_rfl
theorem I5:uC.offset=0:=by kernel_rfl
noncomputable def uD:Field:=bq 44 1
theorem I8:uD.type=42:=by kernel_rfl
theorem I7:uD.offset=1:=by kernel_rfl
theorem Vd:aX prog 44=some ⟨.struct #[uC,uD],2,48,.agg #[.slice none 0 0,.slice none 0 0],true⟩:=by kernel_rfl
noncomputable def uF:Field:=bq 51 0
theorem Ja:uF.type=47:=by kernel_rfl
theorem I9:uF.offset=0:=by kernel_rfl
noncomputable def uG:Field:=bq 51 1
theorem Jc:uG.type=48:=by kernel_rfl
theorem Jb:uG.offset=1:=by kernel_rfl
noncomputable def uH:Field:=bq 51 2
theorem Je:uH.type=49:=by kernel_rfl
theorem Jd:uH.offset=2:=by kernel_rfl
theorem Vi:aX prog 51=some ⟨.struct #[uF,uG,uH],3,72,.agg #[.slice none 0 0,.slice none 0 0,.slice none 0 0],true⟩:=by kernel_rfl
noncomputable def oO:Field:=bq 54 0
theorem Jh:oO.type=52:=by kernel_rfl
theorem Jg:oO.offset=0:=by kernel_rfl
theorem Jf:(oO.name = "_")=False:=eq_false (by decide +kernel)
noncomputable def oP:Field:=bq 54 1
theorem Jk:oP.type=52:=by kernel_rfl
theorem Jj:oP.offset=1:=by kernel_rfl
theorem Ji:(oP.name = "_")=False:=eq_false (by decide +kernel)
noncomputable def oQ:Field:=bq 54 2
theorem Jn:oQ.type=52:=by kernel_rfl
theorem Jm:oQ.offset=2:=by kernel_rfl
theorem Jl:(oQ.name = "_")=False:=eq_false (by decide +kernel)
theorem Vk:aX prog 54=some ⟨.struct #[oO,oP,oQ],3,48,.agg #[.string ⟨#[]⟩,.string ⟨#[]⟩,.string ⟨#[]⟩],true⟩:=by kernel_rfl
noncomputable def oS:Field:=bq 56 0
theorem Jq:oS.type=54:=by kernel_rfl
theorem Jp:oS.offset=0:=by kernel_rfl
theorem Jo:(oS.name = "_")=False:=eq_false (by decide +kernel)
noncomputable def oU:Field:=bq 56 1
theorem Jt:oU.type=52:=by kernel_rfl
theorem Js:oU.offset=3:=by kernel_rfl
theorem Jr:(oU.name = "_")=False:=eq_false (by decide +kernel)
theorem Vl:aX prog 56=some ⟨.struct #[oS,oU],4,64,.agg #[.string ⟨#[]⟩,.string ⟨#[]⟩,.string ⟨#[]⟩,.string ⟨#[]⟩],true⟩:=by kernel_rfl
noncomputable def oV:Field:=bq 58 0
theorem Jw:oV.type=56:=by kernel_rfl
theorem Jv:oV.offset=0:=by kernel_rfl
theorem Ju:(oV.name = "_")=False:=eq_false (by decide +kernel)
noncomputable def oW:Field:=bq 58 1
theorem Jz:oW.type=54:=by kernel_rfl
theorem Jy:oW.offset=4:=by kernel_rfl
theorem Jx:(oW.name = "_")=False:=eq_false (by decide +kernel)
theorem Vm:aX prog 58=some ⟨.struct #[oV,oW],7,112,.agg #[.string ⟨#[]⟩,.string ⟨#[]⟩,.string ⟨#[]⟩,.string ⟨#[]⟩,.string ⟨#[]⟩,.string ⟨#[]⟩,.string ⟨#[]⟩],true⟩:=by kernel_rfl
noncomputable def uI:Field:=bq 61 0
theorem JB:uI.type=54:=by kernel_rfl
theorem JA:uI.offset=0:=by kernel_rfl
noncomputable def uJ:Field:=bq 61 1
theorem JD:uJ.type=59:=by kernel_rfl
theorem JC:uJ.offset=3:=by kernel_rfl
noncomputable def uK:Field:=bq 61 2
theorem JF:uK.type=54:=by kernel_rfl
theorem JE:uK.offset=4:=by kernel_rfl
theorem Vo:aX prog 61=some ⟨.struct #[uI,uJ,uK],7,120,.agg #[.string ⟨#[]⟩,.string ⟨#[]⟩,.string ⟨#[]⟩,.slice none 0 0,.string ⟨#[]⟩,.string ⟨#[]⟩,.string ⟨#[]⟩],true⟩:=by kernel_rfl
noncomputable def oY:Field:=bq 63 0
theorem JI:oY.type=56:=by kernel_rfl
theorem JH:oY.offset=0:=by kernel_rfl
theorem JG:(oY.name = "_")=False:=eq_false (by decide +kernel)
noncomputable def oZ:Field:=bq 63 1
theorem JL:oZ.type=52:=by kernel_rfl
theorem JK:oZ.offset=4:=by kernel_rfl
theorem JJ:(oZ.name = "_")=False:=eq_false (by decide +kernel)
noncomputable def o8:Field:=bq 63 2
theorem JO:o8.type=9:=by kernel_rfl
theorem JN:o8.offset=5:=by kernel_rfl
theorem JM:(o8.name = "_")=False:=eq_false (by decide +kernel)
theorem Vp:aX prog 63=some ⟨.struct #[oY,oZ,o8],6,96,.agg #[.string ⟨#[]⟩,.string ⟨#[]⟩,.string ⟨#[]⟩,.string ⟨#[]⟩,.string ⟨#[]⟩,.string ⟨#[]⟩],true⟩:=by kernel_rfl
theorem GD:aX prog 64=some ⟨.array 4 3,4,32,.agg #[.int .i64 0,.int .i64 0,.int .i64 0,.int .i64 0],true⟩:=by kernel_rfl
noncomputable def o9:Field:=bq 66 0
theorem JR:o9.type=64:=by kernel_rfl
theorem JQ:o9.offset=0:=by kernel_rfl
theorem JP:(o9.name = "_")=False:=eq_false (by decide +kernel)
noncomputable def pd:Field:=bq 66 1
theorem JU:pd.type=54:=by kernel_rfl
theorem JT:pd.offset=4:=by kernel_rfl
theorem JS:(pd.name = "_")=False:=eq_false (by decide +kernel)
theorem Vq:aX prog 66=some ⟨.struct #[o9,pd],7,80,.agg #[.int .i64 0,.int .i64 0,.int .i64 0,.int .i64 0,.string ⟨#[]⟩,.string ⟨#[]⟩,.string ⟨#[]⟩],true⟩:=by kernel_rfl
noncomputable def uL:Field:=bq 68 0
theorem JW:uL.type=3:=by kernel_rfl
theorem JV:uL.offset=0:=by kernel_rfl
noncomputable def uM:Field:=bq 68 1
theorem JY:uM.type=9:=by kernel_rfl
theorem JX:uM.offset=1:=by kernel_rfl
noncomputable def uN:Field:=bq 68 2
theorem J0:uN.type=51:=by kernel_rfl
theorem JZ:uN.offset=2:=by kernel_rfl
noncomputable def uO:Field:=bq 68 3
theorem J4:uO.type=58:=by kernel_rfl
theorem J3:uO.offset=5:=by kernel_rfl
noncomputable def uP:Field:=bq 68 4
theorem J6:uP.type=61:=by kernel_rfl
theorem J5:uP.offset=12:=by kernel_rfl
noncomputable def uQ:Field:=bq 68 5
theorem J8:uQ.type=63:=by kernel_rfl
theorem J7:uQ.offset=19:=by kernel_rfl
noncomputable def uR:Field:=bq 68 6
theorem Ka:uR.type=66:=by kernel_rfl
theorem J9:uR.offset=25:=by kernel_rfl
theorem Vr:aX prog 68=some ⟨.struct #[uL,uM,uN,uO,uP,uQ,uR],32,504,.agg #[.int .i64 0,.string ⟨#[]⟩,.slice none 0 0,.slice none 0 0,.slice none 0 0,.string ⟨#[]⟩,.string ⟨#[]⟩,.string ⟨#[]⟩,.string ⟨#[]⟩,.string ⟨#[]⟩,.string ⟨#[]⟩,.string ⟨#[]⟩,.string ⟨#[]⟩,.string ⟨#[]⟩,.string ⟨#[]⟩,.slice none 0 0,.string ⟨#[]⟩,.string ⟨#[]⟩,.string ⟨#[]⟩,.string ⟨#[]⟩,.string ⟨#[]⟩,.string ⟨#[]⟩,.string ⟨#[]⟩,.string ⟨#[]⟩,.string ⟨#[]⟩,.int .i64 0,.int .i64 0,.int .i64 0,.int .i64 0,.string ⟨#[]⟩,.string ⟨#[]⟩,.string ⟨#[]⟩],true⟩:=by kernel_rfl
noncomputable def pe:Field:=bq 79 0
theorem Kd:pe.type=52:=by kernel_rfl
theorem Kc:pe.offset=0:=by kernel_rfl
theorem Kb:(pe.name = "_")=False:=eq_false (by decide +kernel)
noncomputable def pf:Field:=bq 79 1
theorem Kg:pf.type=52:=by kernel_rfl
theorem Kf:pf.offset=1:=by kernel_rfl
theorem Ke:(pf.name = "_")=False:=eq_false (by decide +kernel)
theorem Vv:aX prog 79=some ⟨.struct #[pe,pf],2,32,.agg #[.string ⟨#[]⟩,.string ⟨#[]⟩],true⟩:=by kernel_rfl
noncomputable def mD:Field:=bq 108 0
theorem F0:mD.type=52:=by kernel_rfl
theorem FZ:mD.offset=0:=by kernel_rfl
theorem FY:(mD.name = "_")=False:=eq_false (by decide +kernel)
noncomputable def mE:Field:=bq 108 1
theorem F5:mE.type=52:=by kernel_rfl
theorem F4:mE.offset=1:=by kernel_rfl
theorem F1:(mE.name = "_")=False:=eq_false (by decide +kernel)
theorem So:aX prog 108=some ⟨.struct #[mD,mE],2,32,.agg #[.string ⟨#[]⟩,.string ⟨#[]⟩],true⟩:=by kernel_rfl
theorem KT:aX prog 115=some ⟨.array 2 3,2,16,.agg #[.int .i64 0,.int .i64 0],true⟩:=by kernel_rfl
theorem Sq:aX prog 130=some ⟨.array 3 79,6,96,.agg #[.string ⟨#[]⟩,.string ⟨#[]⟩,.string ⟨#[]⟩,.string ⟨#[]⟩,.string ⟨#[]⟩,.string ⟨#[]⟩],true⟩:=by kernel_rfl
theorem Ss:aX prog 172=some ⟨.array 3 3,3,24,.agg #[.int .i64 0,.int .i64 0,.int .i64 0],true⟩:=by kernel_rfl
noncomputable def rq:Field:=bq 251 0
theorem F7:rq.type=4:=by kernel_rfl
theorem F6:rq.offset=0:=by kernel_rfl
noncomputable def ru:Field:=bq 251 1
theorem F9:ru.type=249:=by kernel_rfl
theorem F8:ru.offset=1:=by kernel_rfl
theorem Sx:aX prog 251=some ⟨.struct #[rq,ru],2,32,.agg #[.bool false,.slice none 0 0],true⟩:=by kernel_rfl
noncomputable def yO:Field:=bq 300 0
theorem Ga:yO.type=297:=by kernel_rfl
noncomputable def rz:Field:=bq 300 1
theorem Gc:rz.type=298:=by kernel_rfl
theorem Gb:rz.offset=1:=by kernel_rfl
theorem SC:aX prog 300=some ⟨.struct #[yO,rz],2,32,.agg #[.pointer none,.slice none 0 0],true⟩:=by kernel_rfl
noncomputable def rA:Field:=bq 348 0
theorem Ge:rA.type=79:=by kernel_rfl
theorem Gd:rA.offset=0:=by kernel_rfl
noncomputable def rB:Field:=bq 348 1
theorem Gg:rB.type=52:=by kernel_rfl
theorem Gf:rB.offset=2:=by kernel_rfl
theorem SE:aX prog 348=some ⟨.struct #[rA,rB],3,48,.agg #[.string ⟨#[]⟩,.string ⟨#[]⟩,.string ⟨#[]⟩],true⟩:=by kernel_rfl
theorem SF:aX prog 349=some ⟨.array 3 348,9,144,.agg #[.string ⟨#[]⟩,.string ⟨#[]⟩,.string ⟨#[]⟩,.string ⟨#[]⟩,.string ⟨#[]⟩,.string ⟨#[]⟩,.string ⟨#[]⟩,.string ⟨#[]⟩,.string ⟨#[]⟩],true⟩:=by kernel_rfl
attribute [simp] U0 ID
attribute [simp] IC IF IE IH IG U1 U2 IJ II
attribute [simp] IL IK U3 U4 U5 U6
attribute [simp] IN IM IQ IP IT IS IV IU IX IW U7
attribute [simp] IZ IY I3 I2 U9 Va
attribute [simp] I6 I5 I8 I7 Vd
attribute [simp] Ja I9 Jc Jb Je Jd Vi
attribute [simp] Jh Jg Jf Jk Jj Ji Jn Jm Jl Vk Jq Jp Jo
attribute [simp] Jt Js Jr Vl Jw Jv Ju Jz Jy Jx Vm
attribute [simp] JB JA JD JC JF JE Vo
attribute [simp] JI JH JG JL JK JJ JO JN JM Vp GD
attribute [simp] JR JQ JP JU JT JS Vq
attribute [simp] JW JV JY JX
attribute [simp] J0 JZ J4 J3 J6 J5 J8 J7 Ka J9 Vr
attribute [simp] Kd Kc Kb Kg Kf Ke Vv
attribute [simp] F0
attribute [simp] FZ FY F5 F4 F1 So KT Sq Ss
attribute [simp] F7 F6 F9 F8 Sx Ga Gc
attribute [simp] Gb SC Ge Gd Gg Gf SE
attribute [simp] SF
noncomputable def bS(f:FuncId)(args:List AV):Option AV:=
 match f,args with
 |252,[.str s,.int .i64 b,.int .i64 w]=>if s≠[]/\s.all isD=true/\s.length<=18/\b=10/\w=64 then some (.tuple [.int .u64 (fg s:Nat),.nilIface]) else none
 |256,[.int .u64 u,.int .i64 b]=>if 0<=u/\u<=18446744073709551615/\b=10 then some (.str (ai u.toNat)) else none
 |f,args=>ak f args
theorem By:qS prog (ah bS):=bM fun f V v h mem=>by
 unfold bS at h;split at h
 .split at h
  .rename_i X
   obtain⟨Z,U,h3,rfl,rfl⟩:=X;cases h;exact Be _ Z U h3 mem
  .cases h
 .split at h
  .rename_i X
   obtain⟨Z,U,rfl⟩:=X;cases h;have S:=(Int.toNat_lt Z).2 (show _<((18446744073709551616:Nat):Int) by omega);have:=zK _ S mem;rw[QQi Z] at this;exact this
  .cases h
 .have:=er.fn _ _ mem ⟨v,none,[]⟩ (by unfold ah;simp only;rw[h])
  simpa [afl.mem] using this
noncomputable def bZ:y9:=fun c Z M=>((ah bS).or cv) c Z M
theorem qR:qS prog bZ:=By.or Iu
def vp:List Nat->Mem
 | []=>[.cells true 0 [.bool false,.qF],.cells true 1 []]
 |x::l=>[.cells true 0 [.bool false,.qF],.qK,.cells true 1 (iN .u64 (x::l))]
def so:List Nat->AV
 | []=>.slice 1 0 0 none
 |x::l=>.slice 2 0 (l.length+1) none
theorem DT{K:Nat}(H:List UInt8)(hd:H.all isD=true)(hs:H.length<=1000000)(J:H.length<K){b:Code}(I:ag f210=[b]):
  ∃F:Env->Bool->Env,∀Z d,(ad Z 3=.str H/\ad Z 5=.slice 1 0 0 none)->
   aL (aX prog) (fun _=>[3,5]) bZ K 44 0 true (.loop b) ⟨Z,vp [],d⟩=some (.exit 0,⟨F Z d,vp (iU H),d⟩)/\
   (ad (F Z d) 5=so (iU H)/\ad (F Z d) 2=ad Z 2/\ad (F Z d) 4=ad Z 4):=by
 refine bj rfl (fun Z=>ad Z 3=.str H/\ad Z 5=.slice 1 0 0 none) (fun Z G =>ad G 5=so (iU H)/\ad G 2=ad Z 2/\ad G 4=ad Z 4) ?_;rintro Z d ⟨h3,h5⟩;simp[ag,aE,f210] at I;have X:an [3,5] (aa b) Z ((3,.str H)::(5,so [])::Z)=an [3,5] (aa b) Z Z:=by simp[an,h3,h5,so]
 rw[<-X];refine bI (α:=List UInt8×List Nat) (fun a=>⟨an [3,5] (aa b) Z ((3,.str a.1)::(5,so a.2)::Z),vp a.2,d⟩) (fun a=>a.1.length)
  (fun a=>a.1.all isD=true/\a.1.length<=H.length/\a.2++iU a.1=iU H) (.exit 0) _ d _ (by simp) ?_ K (H,[]) ⟨hd,L9 _,rfl⟩ J
 rintro ⟨s,done⟩ ⟨P',ZJ,PP⟩;simp only at P' ZJ PP;clear X;subst I;by_cases hs0:s=[]
 .right
  subst hs0;rw[Ri,List.append_nil] at PP;rw[<-PP];simp
 .left
  have C:0<s.length:=List.length_pos_iff.2 hs0;rw[ya hs0] at PP;have m:done.length<=1000000:=by have B:=(lQ _ H (L9 _) hd).2.2;rw[<-PP] at B;simp at B;omega
  obtain⟨k,u⟩:=xE (s.length-9);rw[<-u] at PP;obtain⟨n,X⟩:=xE (fg (s.drop k));have j:n<1000000000:=by rw[X,u];exact O7 P'
  rw[<-X] at PP;have w1:IntKind.i64.wrap ((s.length:Int)-9)=(s.length:Int)-9:=af;have N:(if (s.length:Int)-9<0 then (0:Int) else (s.length:Int)-9)=(k:Int):=by split<;>omega
  have Y:k<=s.length:=by omega
  have V:(s.drop k).take (s.length-k)=s.drop k:=B5 (by simp);have U:s.drop k≠[]:=by intro e;have:=congrArg List.length e;simp at this;omega
  have S:=AI P' k;have R:(s.drop k).length<=18:=by simp;omega
  have M:(k:Int)<=(s.length:Int):=by omega
  have o:(done.length+1)*8<=140737488355328:=by omega
  have L:done.length+1<=140737488355328:=by omega
  obtain⟨sd,O⟩:=xE (s.drop k);rw[<-O] at V U S R X;refine⟨(s.take k,done++[n]),?_⟩;refine bt (r:=_/\_) (show((s.take k).all isD=true/\(s.take k).length<=H.length/\(done++[n])++iU (s.take k)=iU H)/\(s.take k).length<s.length by refine⟨⟨pz P' k,by simp;omega,?_⟩,by simp;omega⟩;rw[<-PP];simp) ?_
  clear PP;have hpI:0<(s.length:Int):=by omega
  cases done with
  |nil=>
   simp[vp,so,bZ,y9.or,ah,bS,C,w1,N,M,<-O,V,U,S,R,<-X,cr,Nat.testBit]
  |cons x l=>
   have ht:(iN .u64 l).take l.length=iN .u64 l:=B5 (by simp);simp only[List.length_cons] at o L;simp[vp,so,bZ,y9.or,ah,bS,C,w1,N,M,<-O,V,U,S,R,<-X,ht,o,L,cr,dE,Nat.testBit]
section
variable (z:Int)(hl:(ai z.natAbs).length<=1000000)
include z hl
theorem Gq:ae (aX prog) (fun _=>[3,5]) (aZ prog) bZ ((ai z.natAbs).length+1) 210 [.str (bF z)] []=
  some ⟨.agg [.bool (decide (z<0)),.slice 0 0 (aW (iU (ai z.natAbs))).length none],none,[.cells true 1 (iN .u64 (iU (ai z.natAbs)))]⟩:=by
 have u:aZ prog 210=some f210:=by kernel_rfl
 obtain⟨b,U⟩:∃b,ag f210=[b]:=⟨_,rfl⟩
 obtain⟨F,X⟩:=DT (K:=(ai z.natAbs).length+1) (ai z.natAbs) (dI _) hl (by omega) U;simp[ag,aE,f210] at U;subst U;obtain⟨o,m,M⟩:=lQ _ (ai z.natAbs) (L9 _) (dI _);have S:iU (ai z.natAbs)≠[]:=by rw[ya (jN _)];simp
 obtain⟨Z,R⟩:=xE (iU (ai z.natAbs));rw[<-R] at X o m M S |-;have j:vp Z=[.cells true 0 [.bool false,.qF],.qK,.cells true 1 (iN .u64 Z)]:=by cases Z<;>first | exact absurd rfl S | rfl
 have Y:so Z=.slice 2 0 Z.length none:=by cases Z<;>first | exact absurd rfl S | rfl
 rw[j,Y] at X;simp only[vp] at X;obtain⟨L,G⟩:=xE ((ai z.natAbs).length);obtain⟨c,J⟩:=xE (α:=Nat) (L / 9+1);obtain⟨O,V⟩:=xE (α:=Nat) (L / 9);rw[<-G] at X hl M |-;have w1:IntKind.i64.wrap ((L:Int) / 9)=(O:Int):=by rw[af];omega
 have I :IntKind.i64.wrap ((L:Int).tdiv 9)=(O:Int):=by rw[Hq L 9,<-V];exact af
 have w2:IntKind.i64.wrap ((O:Int)+1)=(c:Int):=by rw[af];omega
 have H:8*(c:Int)<=281474976710656:=by omega
 have h9:(c:Int)<=281474976710656:=by omega
 have hs2:∀C B l,bd .u64 (C::B::.cells true 1 (iN .u64 Z)::l) (.slice 2 0 Z.length none)=some Z:=fun C B l=>aU rfl (by simp) (B5 (by simp))
 have N:Z.length<=1000000000:=by omega
 clear J V;simp[ae,u,f210,bZ,cv,cC,cg,bR,y9.or,ah,bS,ak,aG,aK,<-G,w1,w2,H,h9,X,hs2,N,cj,aH]
theorem MW(M:Mem):kO prog 210 [.str (bF z)] M (.agg [.bool (decide (z<0)),.slice M.length 0 (dig 1000000000 z.natAbs).length none]) (M++[.cells true 1 (iN .u64 (dig 1000000000 z.natAbs))]):=by
 obtain⟨S,X,R⟩:=lQ _ (ai z.natAbs) (L9 _) (dI _);rw[dM] at X;have V:aW (iU (ai z.natAbs))=dig 1000000000 z.natAbs:=by rw[<-dV (by omega) S,X]
 have h:=(aB aj (aI _) qR (aQ _) (Gq z hl)).1;simp only[afl.mem,Option.getD_none,List.nil_append] at h;have U:=kO.agn (m2:=[.cells true 1 (iN .u64 (dig 1000000000 z.natAbs))]) h rfl (fun b s Z=>by
  match b with
  |0=>simp at Z;subst Z;exact⟨_,rfl,.row (by rw[<-V];exact dG _)⟩
  |b+1=>simp at Z)
 rw[V] at U;have h3:=kO.frame (M:=M) [] (m:=[]) (new:=[.cells true 1 (iN .u64 (dig 1000000000 z.natAbs))]) rfl (by simp) rfl (by simp) rfl U;simpa [AV.ren,AV.afI,fA] using h3
end
end Go.Proofs
namespace Go.Proofs
open Go.Eng Go.Shelf Go.RowKit Go.Sort
open Tryz
theorem LV{P:Program}{e:TypeId}{n s d:Nat}(hd:P.depth=d+1)(hs:P.cellsOf e=s+1)(H:sameLayout P P.depth e e=true)(I:1<=n):liesAt P P.depth e n 0 e 1=true:=by rw[hd] at H;simp[hd,liesAt,rowAt,hs,H,I]
theorem zV(n:Nat)(H:1<=n):liesAt prog prog.depth 300 n 0 300 1=true:=
 LV (s:=1) (d:=prog.depth-1) (by kernel_rfl) (by kernel_rfl) (by kernel_rfl) H
theorem xw:prog.cellsOf 300=2:=by kernel_rfl
theorem qg:(prog.info? 300).map (·.size)=some 2:=by kernel_rfl
theorem ug(b:Nat)(w:World)(h0:w.cell? ⟨b,0,none⟩=some (.pointer (some ⟨b,0,none⟩))):
  Calls prog 278 #[.pointer (some ⟨b,0,none⟩)] w fun e w' =>e=.returned (.tuple #[])/\w' =w:=by
 obtain⟨j,Z,_⟩:=Y1.1 qg
 go_enter func278,ntmps278
 go_wp2
 rw[Lib.run_neq_ptr_same w _ (tp:=297) (te:=300) (by kernel_rfl) Z]
 go_wp2
 go_end0
 exact⟨rfl,rfl⟩
theorem tF(b:Nat)(w:World)(h0:w.cell? ⟨b,0,none⟩=some (.pointer none))(n:Nat)(I:2<=n)(H:w.shape? b=some (300,n))(J:w.frozen? ⟨b,0,none⟩=false):
  Calls prog 278 #[.pointer (some ⟨b,0,none⟩)] w fun e w' =>e=.returned (.tuple #[])/\w' =w.setCell ⟨b,0,none⟩ (.pointer (some ⟨b,0,none⟩)):=by
 obtain⟨j,X,Z⟩:=Y1.1 qg;have V:prog.underlying 297=some (.pointer 300):=by kernel_rfl
 have U:prog.underlying 334=some .unsafePointer:=by kernel_rfl
 go_enter func278,ntmps278
 go_wp2
 rw[Lib.run_to_unsafe w ⟨b,0,none⟩ V U X (by rw[Z];decide) H (QXK (Nat.zero_lt_succ 1) I)];simp only[Result.andThen];rw[Oper.upon_value]
 go_wp2
 rw[run_callFunc_extern func297 (by kernel_rfl) (by kernel_rfl) (by kernel_rfl) (e:=Extern.AbiNoEscape.same) (by kernel_rfl)];rw[Lib.run_noEscape];simp only[Result.andThen];rw[Oper.upon_value]
 go_wp2
 rw[Lib.run_from_unsafe w ⟨b,0,none⟩ U V X H (zV _ (by rw[xw];omega))];simp only[Result.andThen];rw[Oper.upon_value]
 go_wp2
 go_end0
 exact⟨rfl,rfl⟩
abbrev aO:Nat:=1000*(300+1)
theorem tE(mem:Mem)(b:Nat)(H:AV)(I:mem[b]? =some (.cells true aO [.ptr b 0,H])):
  kO prog 278 [.ptr b 0] mem (.tuple []) mem:=by
 refine⟨ix _ func278 (by kernel_rfl) (by kernel_rfl),fun base μ w Vs hG hH hV=>?_⟩;obtain⟨X,_,rfl,hV,rfl⟩:=hV;simp only[afn] at hV;have S:=hH.slot b _ I;simp only[afD] at S;obtain⟨O,el,G,N,F,g3,M,L⟩:=S;obtain⟨R,C,B,u⟩:=L trivial;obtain⟨V,Z,U⟩:=M 0 _ rfl;simp only[afn] at U;obtain⟨K,rfl⟩:=hV;rw[R] at U Z;rw[R];obtain⟨_,rfl⟩:=U;refine(ug (μ b).blk w (by simp only[World.cell?,N];exact Z)).mono ?_;rintro e w' ⟨rfl,rfl⟩;exact⟨_,_,_,μ,rfl,by simp[afn,afo],hH,.refl (L9 _),rfl,rfl⟩
theorem qD(mem:Mem)(b:Nat)(I:AV)(H:mem[b]? =some (.cells true aO [.afB,I])):
  kO prog 278 [.ptr b 0] mem (.tuple []) (mem.set b (.cells true aO [.ptr b 0,I])):=by
 refine⟨ix _ func278 (by kernel_rfl) (by kernel_rfl),fun base μ w Vs hG hH hV=>?_⟩;obtain⟨X,_,rfl,hV,rfl⟩:=hV;simp only[afn] at hV;have F:=hH.slot b _ H;simp only[afD] at F;obtain⟨Z,el,fr,N,C,g3,B,o⟩:=F;obtain⟨S,rfl,m,Y⟩:=o trivial;obtain⟨V,R,u⟩:=B 0 _ rfl;obtain⟨J,O,M⟩:=B 1 _ rfl;simp only[afn] at u;obtain⟨L,rfl⟩:=hV;rw[S] at R O;rw[S];subst u;have K:el=300:=by have:=C.2 (by decide);exact Nat.succ.inj this
 subst K;have G:w.cell? ⟨(μ b).blk,0,none⟩=some (.pointer none):=by simp only[World.cell?,N];exact R
 have Z6:Z.size=2\/2<Z.size:=by simp only[List.length_cons,List.length_nil] at g3;omega
 refine(tF (μ b).blk w G Z.size (by omega) (by simp only[World.shape?,N]) (by simp[World.frozen?,N])).mono ?_;rintro e w' ⟨rfl,rfl⟩;obtain⟨k1,k2⟩:=hH.write (w' :=w.setCell ⟨(μ b).blk,0,none⟩ (.pointer (some ⟨(μ b).blk,0,none⟩))) (s' :=.cells true aO [.ptr b 0,I]) H (pR H) (fun _=>⟨_,QQc (gL H),rfl⟩) rfl rfl rfl rfl (by simp[World.setCell]) (fun k hk=>by simp[World.setCell,Array.getElem?_modify,Ne.symm hk]) (by
  simp only[afD];refine⟨Z.setIfInBounds 0 (.pointer (some ⟨(μ b).blk,0,none⟩)),300,(0,0),by simp[World.setCell,Array.getElem?_modify,N],C,g3,fun j v U=>?_,fun _=>⟨S,rfl,by simpa using m,Y⟩⟩
  match j,U with
  |0,U=>
   simp at U;subst U;refine⟨.pointer (some ⟨(μ b).blk,0,none⟩),?_,by simp[afn,L,S]⟩;rw[S];have:0<Z.size:=by omega
   simp[this]
  |1,U=>
   simp at U;subst U;refine⟨J,?_,M⟩;rw[S];simpa using O
  |j+2,U=>simp at U)
 exact⟨_,_,_,μ,rfl,by simp[afn,afo],k1,k2,rfl,rfl⟩
end Go.Proofs
namespace Go.Proofs
open Go.Eng
open Tryz
def iB(s:List UInt8):List AV:=s.map fun c=>.int .u8 (c.toNat:Int)
@[simp] theorem Yg (s:List UInt8):(iB s).length=s.length:=by simp[iB]
theorem Tq(s t:List UInt8):iB (s++t)=iB s++iB t:=by simp[iB]
@[simp] theorem Zc:iB []=[]:=rfl
@[simp] theorem YX (m:Nat) (s:List UInt8):AV.afE m (iB s)=[]:=by
 induction s with
 |nil=>rfl
 |cons c s ih=>simpa [iB,AV.afE,AV.refs] using ih
@[simp] theorem Zd (ρ:Nat->Option Nat) (s:List UInt8):AV.afI ρ (iB s)=iB s:=by
 induction s with
 |nil=>rfl
 |cons c s ih=>simpa [iB,AV.afI,AV.ren] using ih
@[simp] theorem Zb (s:List UInt8) (p:AV->Prop):(∀x,x∈iB s->p x)↔∀c,c∈s->p (.int .u8 (c.toNat:Int)):=by simp[iB]
theorem kK(s:List UInt8):jD (iB s)=some s:=by
 induction s with
 |nil=>rfl
 |cons c s ih=>
  have Z:(0:Int)<=(c.toNat:Int)/\(c.toNat:Int)<256:=by have:=c.toNat_lt;omega
  show jD (.int .u8 (c.toNat:Int)::iB s)=_
  rw[jD,if_pos Z,ih];simp
noncomputable def gN:y9:=fun c Z M=>match c,Z with
 |.fn 278,[.ptr b 0]=>match M[b]? with
  |some (.cells true es [.afB,sl])=>if es=aO then some ⟨.tuple [],some (M.set b (.cells true aO [.ptr b 0,sl])),[]⟩ else none
  |some (.cells true es [.ptr b' 0,_])=>if es=aO/\b' =b then some ⟨.tuple [],none,[]⟩ else none
  |_=>none
 |_,_=>none
theorem oL:qS prog gN where
 fn f args mem r h:=by
  unfold gN at h;split at h
  .rename_i V
   cases V;split at h
   .rename_i b _ es X hb
    split at h
    .rename_i Z
     cases h;subst Z;simpa [afl.mem] using qD mem b X hb
    .cases h
   .rename_i b _ es b' X hb
    split at h
    .rename_i Z
     cases h;obtain⟨rfl,rfl⟩:=Z;simpa [afl.mem] using tE mem _ _ hb
    .cases h
   .cases h
  .cases h
 yld b args mem r h:=by unfold gN at h;split at h<;>simp_all
 pre c args mem r p h hp:=by
  unfold gN at h;split at h
  .split at h
   .split at h
    .cases h;cases hp;simp
    .cases h
   .split at h
    .cases h;cases hp
    .cases h
   .cases h
  .cases h
theorem Ww(s:List UInt8):(s.map fun c=>AV.int .u8 (c.toNat:Int))=iB s:=rfl
theorem BW(M:Mem)(b:Nat)(s:List UInt8)(H:M[b]? =some (.cells true aO [.afB,.qF]))(hs:s≠[])(I:s.length<=100000000):
  cI (aX prog) (fun _=>[]) (aZ prog) gN 1 257 [.ptr b 0,.str s] M=some (.tuple [.int .i64 (s.length:Int),.nilIface],M.set b (.cells true aO [.ptr b 0,.slice M.length 0 s.length none])++[.cells true 6001 (iB s)]):=by
 have S:aZ prog 257=some f257:=by kernel_rfl
 have Z:b<M.length:=gL H;have R:s.length<=140737488355328:=by omega
 have X:∀x,(M.set b x)[b]? =some x:=fun x=>QQc Z
 have V:∀x l,(M.set b x++l)[b]? =some x:=fun x l=>by rw[GT (by simpa using Z),X]
 have U:∀x y l,(M.set b x++l).set b y=M.set b y++l:=fun x y l=>by rw[List.set_append_left _ _ (by simpa using Z),List.set_set]
 clear Z;simp[cI,S,f257,gN,H,hs,R,X,V,U,Ww]
theorem uV(M:Mem)(b:Nat)(c:UInt8)(H:M[b]? =some (.cells true aO [.afB,.qF])):
  cI (aX prog) (fun _=>[]) (aZ prog) gN 1 254 [.ptr b 0,.int .u8 (c.toNat:Int)] M=some (.nilIface,M.set b (.cells true aO [.ptr b 0,.slice (M.length+1) 0 1 none])++[.cells true 1 (iB [c]),.cells true 6001 (iB [c])]):=by
 have S:aZ prog 254=some f254:=by kernel_rfl
 have Z:b<M.length:=gL H;have X:∀x,(M.set b x)[b]? =some x:=fun x=>QQc Z
 have V:∀x l,(M.set b x++l)[b]? =some x:=fun x l=>by rw[GT (by simpa using Z),X]
 have U:∀x y l,(M.set b x++l).set b y=M.set b y++l:=fun x y l=>by rw[List.set_append_left _ _ (by simpa using Z),List.set_set]
 clear Z;simp[cI,S,f254,gN,H,X,V,U,iB]
theorem BX(M:Mem)(b k:Nat)(t s:List UInt8)(H:M[b]? =some (.cells true aO [.ptr b 0,.slice k 0 t.length none]))(J:M[k]? =some (.cells true 6001 (iB t)))(I:k≠b)(Y:t.length+s.length<=100000000):
  cI (aX prog) (fun _=>[]) (aZ prog) gN 1 257 [.ptr b 0,.str s] M=some (.tuple [.int .i64 (s.length:Int),.nilIface],(M.set k .qK).set b (.cells true aO [.ptr b 0,.slice M.length 0 (t.length+s.length) none])++[.cells true 6001 (iB (t++s))]):=by
 have R:aZ prog 257=some f257:=by kernel_rfl
 have Z:b<M.length:=gL H;have O:t.length+s.length<=140737488355328:=by omega
 have X:∀x,(M.set k x)[b]? =some (.cells true aO [.ptr b 0,.slice k 0 t.length none]):=fun x=>by rw[QQe I,H]
 have V:∀x l,(M.set k x++l)[b]? =some (.cells true aO [.ptr b 0,.slice k 0 t.length none]):=fun x l=>by rw[GT (by simpa using Z),X]
 have U:∀x y l,(M.set k x++l).set b y=(M.set k x).set b y++l:=fun x y l=>by rw[List.set_append_left _ _ (by simpa using Z)]
 have S:(iB t).take t.length=iB t:=B5 (by simp);clear Z;simp[cI,R,f257,gN,H,J,O,V,U,Ww,S,Tq]
theorem Af(H s1 I J:afq)(t:List UInt8)(Y:t≠[])(hl:t.length<=100000000):
  cI (aX prog) (fun _=>[]) (aZ prog) cO 1 258 [.ptr 2 0] [H,s1,.cells true aO [.ptr 2 0,.slice 5 0 t.length none],I,J,.cells true 6001 (iB t)]=some (.str t,[H,s1,.cells true aO [.ptr 2 0,.slice 5 0 t.length none],I,J,.qK]):=by
 have X:aZ prog 258=some f258:=by kernel_rfl
 have Z:(iB t).take t.length=iB t:=B5 (by simp);have V:(t.length:Int)<=9223372036854775807:=by omega
 have U:0<t.length:=List.length_pos_iff.2 Y;simp[cI,X,f258,V,U,Z,kK,Nat.testBit]
theorem Ag(H s1 I J Y s6:afq)(t:List UInt8)(ht:t≠[])(hl:t.length<=100000000):
  cI (aX prog) (fun _=>[]) (aZ prog) cO 1 258 [.ptr 2 0] [H,s1,.cells true aO [.ptr 2 0,.slice 7 0 t.length none],I,J,Y,s6,.cells true 6001 (iB t)]=some (.str t,[H,s1,.cells true aO [.ptr 2 0,.slice 7 0 t.length none],I,J,Y,s6,.qK]):=by
 have X:aZ prog 258=some f258:=by kernel_rfl
 have Z:(iB t).take t.length=iB t:=B5 (by simp);have V:(t.length:Int)<=9223372036854775807:=by omega
 have U:0<t.length:=List.length_pos_iff.2 ht;simp[cI,X,f258,V,U,Z,kK,Nat.testBit]
theorem wL:∀{cs:List AV} {t:List UInt8},jD cs=some t->cs=iB t
 | [],t,h=>by cases h;rfl
 |v::l,t,h=>by
  cases v<;>try (unfold jD at h;cases h;done)
  rename_i k n;cases k<;>try (unfold jD at h;cases h;done)
  unfold jD at h;split at h
  .rename_i X
   split at h
   .rename_i r Z
    cases h;have:=wL Z;rw[this];have e:n=max n 0%256:=by omega
    simp only[iB,List.map_cons,List.cons.injEq,AV.int.injEq,true_and,and_true,UInt8.toNat_ofNat'];omega
   .cases h
  .cases h
noncomputable def gH:y9:=fun c Z M=>match c,Z with
 |.fn 254,[.ptr b 0,.int .u8 n]=>match M[b]? with
  |some (.cells true es [.afB,.qF])=>if es=aO/\n=45 then some ⟨.nilIface,some (M.set b (.cells true aO [.ptr b 0,.slice (M.length+1) 0 1 none])),[.cells true 1 (iB [45]),.cells true 6001 (iB [45])]⟩ else none
  |_=>none
 |.fn 257,[.ptr b 0,.str s]=>match M[b]? with
  |some (.cells true es [.afB,.qF])=>if es=aO/\s≠[]/\s.length<=100000000 then some ⟨.tuple [.int .i64 (s.length:Int),.nilIface],some (M.set b (.cells true aO [.ptr b 0,.slice M.length 0 s.length none])),[.cells true 6001 (iB s)]⟩ else none
  |some (.cells true es [.ptr b' 0,.slice k 0 n none])=>match M[k]? with
   |some (.cells true es2 cs)=>match jD cs with
    |some t=>if es=aO/\b' =b/\es2=6001/\n=t.length/\k≠b/\t.length+s.length<=100000000 then
      some ⟨.tuple [.int .i64 (s.length:Int),.nilIface],some ((M.set k .qK).set b (.cells true aO [.ptr b 0,.slice M.length 0 (t.length+s.length) none])),[.cells true 6001 (iB (t++s))]⟩ else none
    |none=>none
   |_=>none
  |_=>none
 |.fn 258,[.ptr 2 0]=>match M with
  | [s0,s1,.cells true es [.ptr 2 0,.slice 5 0 n none],s3,s4,.cells true es2 cs]=>match jD cs with
   |some t=>if es=aO/\es2=6001/\n=t.length/\t≠[]/\t.length<=100000000 then
     some ⟨.str t,some [s0,s1,.cells true aO [.ptr 2 0,.slice 5 0 t.length none],s3,s4,.qK],[]⟩ else none
   |none=>none
  | [s0,s1,.cells true es [.ptr 2 0,.slice 7 0 n none],s3,s4,s5,s6,.cells true es2 cs]=>match jD cs with
   |some t=>if es=aO/\es2=6001/\n=t.length/\t≠[]/\t.length<=100000000 then
     some ⟨.str t,some [s0,s1,.cells true aO [.ptr 2 0,.slice 7 0 t.length none],s3,s4,s5,s6,.qK],[]⟩ else none
   |none=>none
  |_=>none
 |_,_=>none
theorem yM:qS prog gH where
 fn f args mem r h:=by
  unfold gH at h;split at h
  .rename_i V
   cases V;split at h
   .rename_i hb
    split at h
    .rename_i Z
     cases h;obtain⟨rfl,rfl⟩:=Z;exact cf aj (aI _) oL (aQ _) (uV mem _ 45 hb)
    .cases h
   .cases h
  .rename_i V
   cases V;split at h
   .rename_i hb
    split at h
    .rename_i Z
     cases h;obtain⟨rfl,X,h3⟩:=Z;exact cf aj (aI _) oL (aQ _) (BW mem _ _ hb X h3)
    .cases h
   .rename_i hb
    split at h
    .rename_i S
     split at h
     .rename_i U
      split at h
      .rename_i Z
       cases h;obtain⟨rfl,rfl,rfl,rfl,X,h3⟩:=Z;have:=wL U;subst this;exact cf aj (aI _) oL (aQ _) (BX mem _ _ _ _ hb S X h3)
      .cases h
     .cases h
    .cases h
   .cases h
  .rename_i V
   cases V;split at h
   .split at h
    .rename_i U
     split at h
     .rename_i Z
      cases h;obtain⟨rfl,rfl,rfl,X,h3⟩:=Z;have:=wL U;subst this;simpa [afl.mem] using cf aj (aI _) (az _) (aQ _) (Af _ _ _ _ _ X h3)
     .cases h
    .cases h
   .split at h
    .rename_i U
     split at h
     .rename_i Z
      cases h;obtain⟨rfl,rfl,rfl,X,h3⟩:=Z;have:=wL U;subst this;simpa [afl.mem] using cf aj (aI _) (az _) (aQ _) (Ag _ _ _ _ _ _ _ X h3)
     .cases h
    .cases h
   .cases h
  .cases h
 yld b args mem r h:=by unfold gH at h;split at h<;>simp_all
 pre c args mem r p h hp:=by
  unfold gH at h
  repeat' split at h
  all_goals first
   |(cases h;done)
   |(cases h;cases hp;simp;done)
theorem SO{T:TypeId->Option TyI}{lv:Code->List Nat}{G:FuncId->Option Func}{O:y9}{K:Nat}{f:FuncId}{args:List AV}{mem H :Mem}{fn:Func}{c:Code}{v:AV}{e:Exit}{J :Env}{ks:List Nat}(hf:G f=some fn)(hb:fn.body=some c)(hl:args.length<=fn.ntmps)(he:e=.normal\/e=.ret)(h:aL T lv O K fn.ntmps mem.length true c ⟨dN 0 args,mem,false⟩=some (e,⟨J,H,true⟩))(Y:jS T fn.results.toList J H =some v)(I:qv mem.length H 1000 (v.refs mem.length++(H.take mem.length).flatMap (afq.refs mem.length)) []=ks)(ZF:Ei mem.length H.length ks=true):
  ae T lv G O K f args mem=some ⟨v.ren (rho mem.length ks),some ((H.take mem.length).map (afq.ren (rho mem.length ks))),aga mem.length ks H⟩:=by
 unfold ae;simp only[hf,hb];rw[if_pos hl,h];rcases he with rfl | rfl
 .simp only[Y,if_true]
  rw[I,if_pos ZF]
 .simp only[Y,if_true]
  rw[I,if_pos ZF]
theorem tK{n:Nat}{A:List Nat}(hA:A.length=n)(hn:0<n)(hl:n<=1000000000)(I bA H m0 eb:Nat)(ob oA:Bool)(M:Nat->Mem)(J:(M n).length=m0)(G':∀j,j<n->(M (j+1)).length<=(M j).length/\m0<(M j).length)(hs:∀j,j<=n->(M j)[I]? =some (.cells ob eb [.slice bA 0 n none]))(hr:∀j,j<=n->(M j)[bA]? =some (.cells oA 1 (iN .u64 A)))(Y:∀j,j<n->((M j).take m0).all (fun s=>(s.refs m0).isEmpty)=false)(hy:∀j,j<n->gG prog H [.int .i64 (j:Int),.int .u64 ((A.getD j 0:Nat):Int)] (M (j+1)) (.bool true) (M j))(ks:List Nat)(hks:qv m0 (M 0) 1000 (((M 0).take m0).flatMap (afq.refs m0)) []=ks)(aeh:Ei m0 (M 0).length ks=true):
  kO prog 279 [.yield H,.ptr I 0] (M n) (.tuple []) (((M 0).take m0).map (afq.ren (rho m0 ks))++aga m0 ks (M 0)):=by
 have hG:aZ prog 279=some f279:=by kernel_rfl
 obtain⟨O,hO,U⟩:=jQ (P:=prog) (fun j:Nat=>j<n) (fun _=>.yld H) (fun j=>[.int .i64 (j:Int),.int .u64 ((A.getD j 0:Nat):Int)]) (fun j=>M (j+1)) (fun j=>⟨.bool true,some ((M j).take (M (j+1)).length),(M j).drop (M (j+1)).length⟩)
  (fun j B=>⟨by simpa [afl.mem] using hy j B,fun q hq=>by cases hq;rw[SP];have:=(G' j B).1;omega⟩)
  (fun i j _ _ _ h _=>by
   simp only[List.cons.injEq,AV.int.injEq] at h;have:i=j:=by omega
   rw[this])
 obtain⟨b,V⟩:∃b,ag f279=[b]:=⟨_,rfl⟩
 have loop:∃F:Env->Env,∀Z,(ad Z 0=.yield H/\ad Z 1=.ptr I 0/\ad Z 3=.int .i64 ((n:Int)-1))->
   aL (aX prog) (fun _=>[3]) O (n+1) 19 m0 true (.loop b) ⟨Z,M n,false⟩=some (.exit 0,⟨F Z,M 0,true⟩)/\True:=by
  refine vj rfl false true (fun Z=>ad Z 0=.yield H/\ad Z 1=.ptr I 0/\ad Z 3=.int .i64 ((n:Int)-1)) (fun _ _=>True) ?_;rintro Z ⟨h0,S,h3⟩;simp[ag,aE,f279] at V;have u:an [3] (aa b) Z ((3,.int .i64 ((n:Int)-1))::Z)=an [3] (aa b) Z Z:=by simp[an,h3]
  rw[<-u];have o:(⟨an [3] (aa b) Z ((3,.int .i64 ((n:Int)-1))::Z),M n,false⟩:XS)=⟨an [3] (aa b) Z ((3,.int .i64 ((n:Int)-1))::Z),M n,decide (n<n)⟩:=by simp
  rw[o];refine bI (α:=Nat) (fun k=>⟨an [3] (aa b) Z ((3,.int .i64 ((k:Int)-1))::Z),M k,decide (k<n)⟩) id (fun k=>k<=n) (.exit 0) (M 0) true (fun _=>True) (by simp) ?_ (n+1) n (L9 _) (by simp);intro k hk;clear u o;subst V;cases k with
  |zero=>
   right;simp[hn]
  |succ k=>
   left;have X:k<n:=by omega
   have e1:(((k+1:Nat):Int)-1)=(k:Int):=by omega
   have w1:IntKind.i64.wrap ((k:Int)-1)=(k:Int)-1:=af;have l1:¬(M k).length<=m0:=by have:=(G' k X).2;omega
   have R:=hs (k+1) (by omega);have r1:=hr (k+1) (by omega);have m:=U k X;have N:=Y k X;obtain⟨x,hx,Zw⟩:=de (l:=A) (i:=k) (by omega);have hg:A.getD k 0=x:=by simp[List.getD,hx]
   rw[hg] at m;rw[e1];refine⟨k,?_⟩;have ad' :(k:Int)<(n:Int):=by omega
   simp[h0,S,w1,l1,J,R,r1,Zw,hA,X,m,-List.all_eq_false];refine⟨fun h=>?_,by omega⟩;exfalso;have:((List.take m0 (M k)).all fun s=>(afq.refs m0 s).isEmpty)=true:=List.all_eq_true.2 fun s hs=>by
    have S:=h s hs;have L:afq.refs m0 s=[]:=by cases s<;>exact S
    rw[L];rfl
   rw[N] at this;cases this
 obtain⟨F,hF⟩:=loop;simp[ag,aE,f279] at V;subst V;have w1:IntKind.i64.wrap ((n:Int)-1)=(n:Int)-1:=af;have R:=hs n (by omega);have K:∃D',aL (aX prog) (fun _=>[3]) O (n+1) f279.ntmps (M n).length true (f279.body.getD .skip) ⟨dN 0 [.yield H,.ptr I 0],M n,false⟩=some (.normal,⟨D',M 0,true⟩):=by simp[f279,R,w1,J,hF]
 obtain⟨D',K⟩:=K;have C:ae (aX prog) (fun _=>[3]) (aZ prog) O (n+1) 279 [.yield H,.ptr I 0] (M n)=some ⟨.tuple [],some (((M 0).take m0).map (afq.ren (rho m0 ks))),aga m0 ks (M 0)⟩:=by have:=SO (T:=aX prog) (G:=aZ prog) (v:=.tuple []) hG rfl (by simp[f279]) (.inl rfl) K rfl (ks:=ks) (by rw[J];simpa [AV.refs,AV.afE] using hks) (by rw[J];exact aeh);rw[J] at this;simpa [AV.ren,AV.afI] using this
 have L:=(aB aj (aI _) hO (aQ _) C).1;simpa [afl.mem] using L
end Go.Proofs
