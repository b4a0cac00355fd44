/- See D38. -/
import Derived.Test.YthpgbelancmpjaaGreatDoorD11
import Derived.Test.YthpgbelancmpjaaGreatDoorD12
import Derived.Shelf.Strings.Builder1
set_option linter.all false
set_option maxRecDepth 100000
set_option maxHeartbeats 40000000
namespace Go.Proofs
open Go.Eng
open Tryz
noncomputable def br(t:TypeId)(k:Nat):Field:=match prog.underlying t with
 |some (.struct fs)=>fs.getD k default
 |_=>default
theorem UM:bd prog 23=some ⟨.array 2 22,2,2,.agg #[.int .i8 0,.int .i8 0],true⟩:=by kernel_rfl
noncomputable def ud:Field:=br 25 0
theorem Iw:ud.type=5:=by kernel_rfl
theorem Iv:ud.offset=0:=by kernel_rfl
noncomputable def ue:Field:=br 25 1
theorem Iy:ue.type=23:=by kernel_rfl
theorem Ix:ue.offset=1:=by kernel_rfl
noncomputable def uf:Field:=br 25 2
theorem IA:uf.type=4:=by kernel_rfl
theorem Iz:uf.offset=3:=by kernel_rfl
theorem UN:bd prog 25=some ⟨.struct #[ud,ue,uf],4,4,.agg #[.int .u8 0,.int .i8 0,.int .i8 0,.bool false],true⟩:=by kernel_rfl
theorem UO:bd prog 26=some ⟨.array 6 22,6,6,.agg #[.int .i8 0,.int .i8 0,.int .i8 0,.int .i8 0,.int .i8 0,.int .i8 0],true⟩:=by kernel_rfl
noncomputable def ug:Field:=br 28 0
theorem IC:ug.type=26:=by kernel_rfl
theorem IB:ug.offset=0:=by kernel_rfl
noncomputable def uh:Field:=br 28 1
theorem IE:uh.type=4:=by kernel_rfl
theorem ID:uh.offset=6:=by kernel_rfl
theorem UP:bd prog 28=some ⟨.struct #[ug,uh],7,7,.agg #[.int .i8 0,.int .i8 0,.int .i8 0,.int .i8 0,.int .i8 0,.int .i8 0,.bool false],true⟩:=by kernel_rfl
theorem UQ:bd prog 29=some ⟨.array 2 28,14,14,.agg #[.int .i8 0,.int .i8 0,.int .i8 0,.int .i8 0,.int .i8 0,.int .i8 0,.bool false,.int .i8 0,.int .i8 0,.int .i8 0,.int .i8 0,.int .i8 0,.int .i8 0,.bool false],true⟩:=by kernel_rfl
theorem UR:bd prog 30=some ⟨.array 8 22,8,8,.agg #[.int .i8 0,.int .i8 0,.int .i8 0,.int .i8 0,.int .i8 0,.int .i8 0,.int .i8 0,.int .i8 0],true⟩:=by kernel_rfl
theorem US:bd prog 32=some ⟨.array 4 22,4,4,.agg #[.int .i8 0,.int .i8 0,.int .i8 0,.int .i8 0],true⟩:=by kernel_rfl
noncomputable def ui:Field:=br 34 0
theorem IG:ui.type=5:=by kernel_rfl
theorem IF:ui.offset=0:=by kernel_rfl
noncomputable def uj:Field:=br 34 1
theorem II:uj.type=28:=by kernel_rfl
theorem IH:uj.offset=1:=by kernel_rfl
noncomputable def uk:Field:=br 34 2
theorem IK:uk.type=29:=by kernel_rfl
theorem IJ:uk.offset=8:=by kernel_rfl
noncomputable def um:Field:=br 34 3
theorem IM:um.type=30:=by kernel_rfl
theorem IL:um.offset=22:=by kernel_rfl
noncomputable def uq:Field:=br 34 4
theorem IP:uq.type=32:=by kernel_rfl
theorem IN:uq.offset=30:=by kernel_rfl
theorem UT:bd prog 34=some ⟨.struct #[ui,uj,uk,um,uq],34,34,.agg #[.int .u8 0,.int .i8 0,.int .i8 0,.int .i8 0,.int .i8 0,.int .i8 0,.int .i8 0,.bool false,.int .i8 0,.int .i8 0,.int .i8 0,.int .i8 0,.int .i8 0,.int .i8 0,.bool false,.int .i8 0,.int .i8 0,.int .i8 0,.int .i8 0,.int .i8 0,.int .i8 0,.bool false,.int .i8 0,.int .i8 0,.int .i8 0,.int .i8 0,.int .i8 0,.int .i8 0,.int .i8 0,.int .i8 0,.int .i8 0,.int .i8 0,.int .i8 0,.int .i8 0],true⟩:=by kernel_rfl
noncomputable def ur:Field:=br 37 0
theorem IS:ur.type=35:=by kernel_rfl
theorem IQ:ur.offset=0:=by kernel_rfl
noncomputable def uu:Field:=br 37 1
theorem IU:uu.type=5:=by kernel_rfl
theorem IT:uu.offset=1:=by kernel_rfl
theorem UW:bd prog 37=some ⟨.struct #[ur,uu],2,4,.agg #[.int .i16 0,.int .u8 0],true⟩:=by kernel_rfl
theorem UX:bd prog 39=some ⟨.array 3 37,6,12,.agg #[.int .i16 0,.int .u8 0,.int .i16 0,.int .u8 0,.int .i16 0,.int .u8 0],true⟩:=by kernel_rfl
noncomputable def uv:Field:=br 44 0
theorem IW:uv.type=41:=by kernel_rfl
theorem IV:uv.offset=0:=by kernel_rfl
noncomputable def uw:Field:=br 44 1
theorem IY:uw.type=42:=by kernel_rfl
theorem IX:uw.offset=1:=by kernel_rfl
theorem U0:bd prog 44=some ⟨.struct #[uv,uw],2,48,.agg #[.slice none 0 0,.slice none 0 0],true⟩:=by kernel_rfl
noncomputable def ux:Field:=br 51 0
theorem I2:ux.type=47:=by kernel_rfl
theorem IZ:ux.offset=0:=by kernel_rfl
noncomputable def uy:Field:=br 51 1
theorem I5:uy.type=48:=by kernel_rfl
theorem I3:uy.offset=1:=by kernel_rfl
noncomputable def uz:Field:=br 51 2
theorem I7:uz.type=49:=by kernel_rfl
theorem I6:uz.offset=2:=by kernel_rfl
theorem U5:bd prog 51=some ⟨.struct #[ux,uy,uz],3,72,.agg #[.slice none 0 0,.slice none 0 0,.slice none 0 0],true⟩:=by kernel_rfl
noncomputable def oP:Field:=br 54 0
theorem Ja:oP.type=52:=by kernel_rfl
theorem I9:oP.offset=0:=by kernel_rfl
theorem I8:(oP.name = "_")=False:=eq_false (by decide +kernel)
noncomputable def oQ:Field:=br 54 1
theorem Jd:oQ.type=52:=by kernel_rfl
theorem Jc:oQ.offset=1:=by kernel_rfl
theorem Jb:(oQ.name = "_")=False:=eq_false (by decide +kernel)
noncomputable def oS:Field:=br 54 2
theorem Jg:oS.type=52:=by kernel_rfl
theorem Jf:oS.offset=2:=by kernel_rfl
theorem Je:(oS.name = "_")=False:=eq_false (by decide +kernel)
theorem U7:bd prog 54=some ⟨.struct #[oP,oQ,oS],3,48,.agg #[.string ⟨#[]⟩,.string ⟨#[]⟩,.string ⟨#[]⟩],true⟩:=by kernel_rfl
noncomputable def oU:Field:=br 56 0
theorem Jj:oU.type=54:=by kernel_rfl
theorem Ji:oU.offset=0:=by kernel_rfl
theorem Jh:(oU.name = "_")=False:=eq_false (by decide +kernel)
noncomputable def oV:Field:=br 56 1
theorem Jm:oV.type=52:=by kernel_rfl
theorem Jl:oV.offset=3:=by kernel_rfl
theorem Jk:(oV.name = "_")=False:=eq_false (by decide +kernel)
theorem U8:bd prog 56=some ⟨.struct #[oU,oV],4,64,.agg #[.string ⟨#[]⟩,.string ⟨#[]⟩,.string ⟨#[]⟩,.string ⟨#[]⟩],true⟩:=by kernel_rfl
noncomputable def oW:Field:=br 58 0
theorem Jp:oW.type=56:=by kernel_rfl
theorem Jo:oW.offset=0:=by kernel_rfl
theorem Jn:(oW.name = "_")=False:=eq_false (by decide +kernel)
noncomputable def oY:Field:=br 58 1
theorem Js:oY.type=54:=by kernel_rfl
theorem Jr:oY.offset=4:=by kernel_rfl
theorem Jq:(oY.name = "_")=False:=eq_false (by decide +kernel)
theorem U9:bd prog 58=some ⟨.struct #[oW,oY],7,112,.agg #[.string ⟨#[]⟩,.string ⟨#[]⟩,.string ⟨#[]⟩,.string ⟨#[]⟩,.string ⟨#[]⟩,.string ⟨#[]⟩,.string ⟨#[]⟩],true⟩:=by kernel_rfl
noncomputable def uA:Field:=br 61 0
theorem Ju:uA.type=54:=by kernel_rfl
theorem Jt:uA.offset=0:=by kernel_rfl
noncomputable def uB:Field:=br 61 1
theorem Jw:uB.type=59:=by kernel_rfl
theorem Jv:uB.offset=3:=by kernel_rfl
noncomputable def uC:Field:=br 61 2
theorem Jy:uC.type=54:=by kernel_rfl
theorem Jx:uC.offset=4:=by kernel_rfl
theorem Vb:bd prog 61=some ⟨.struct #[uA,uB,uC],7,120,.agg #[.string ⟨#[]⟩,.string ⟨#[]⟩,.string ⟨#[]⟩,.slice none 0 0,.string ⟨#[]⟩,.string ⟨#[]⟩,.string ⟨#[]⟩],true⟩:=by kernel_rfl
noncomputable def oZ:Field:=br 63 0
theorem JB:oZ.type=56:=by kernel_rfl
theorem JA:oZ.offset=0:=by kernel_rfl
theorem Jz:(oZ.name = "_")=False:=eq_false (by decide +kernel)
noncomputable def o8:Field:=br 63 1
theorem JE:o8.type=52:=by kernel_rfl
theorem JD:o8.offset=4:=by kernel_rfl
theorem JC:(o8.name = "_")=False:=eq_false (by decide +kernel)
noncomputable def o9:Field:=br 63 2
theorem JH:o9.type=9:=by kernel_rfl
theorem JG:o9.offset=5:=by kernel_rfl
theorem JF:(o9.name = "_")=False:=eq_false (by decide +kernel)
theorem Vc:bd prog 63=some ⟨.struct #[oZ,o8,o9],6,96,.agg #[.string ⟨#[]⟩,.string ⟨#[]⟩,.string ⟨#[]⟩,.string ⟨#[]⟩,.string ⟨#[]⟩,.string ⟨#[]⟩],true⟩:=by kernel_rfl
theorem Gn:bd prog 64=some ⟨.array 4 3,4,32,.agg #[.int .i64 0,.int .i64 0,.int .i64 0,.int .i64 0],true⟩:=by kernel_rfl
noncomputable def pc:Field:=br 66 0
theorem JK:pc.type=64:=by kernel_rfl
theorem JJ:pc.offset=0:=by kernel_rfl
theorem JI:(pc.name = "_")=False:=eq_false (by decide +kernel)
noncomputable def pd:Field:=br 66 1
theorem JN:pd.type=54:=by kernel_rfl
theorem JM:pd.offset=4:=by kernel_rfl
theorem JL:(pd.name = "_")=False:=eq_false (by decide +kernel)
theorem Vd:bd prog 66=some ⟨.struct #[pc,pd],7,80,.agg #[.int .i64 0,.int .i64 0,.int .i64 0,.int .i64 0,.string ⟨#[]⟩,.string ⟨#[]⟩,.string ⟨#[]⟩],true⟩:=by kernel_rfl
noncomputable def uD:Field:=br 68 0
theorem JP:uD.type=3:=by kernel_rfl
theorem JO:uD.offset=0:=by kernel_rfl
noncomputable def uF:Field:=br 68 1
theorem JR:uF.type=9:=by kernel_rfl
theorem JQ:uF.offset=1:=by kernel_rfl
noncomputable def uG:Field:=br 68 2
theorem JT:uG.type=51:=by kernel_rfl
theorem JS:uG.offset=2:=by kernel_rfl
noncomputable def uH:Field:=br 68 3
theorem JV:uH.type=58:=by kernel_rfl
theorem JU:uH.offset=5:=by kernel_rfl
noncomputable def uI:Field:=br 68 4
theorem JX:uI.type=61:=by kernel_rfl
theorem JW:uI.offset=12:=by kernel_rfl
noncomputable def uJ:Field:=br 68 5
theorem JZ:uJ.type=63:=by kernel_rfl
theorem JY:uJ.offset=19:=by kernel_rfl
noncomputable def uK:Field:=br 68 6
theorem J3:uK.type=66:=by kernel_rfl
theorem J0:uK.offset=25:=by kernel_rfl
theorem Ve:bd prog 68=some ⟨.struct #[uD,uF,uG,uH,uI,uJ,uK],32,504,.agg #[.int .i64 0,.string ⟨#[]⟩,.slice none 0 0,.slice none 0 0,.slice none 0 0,.string ⟨#[]⟩,.string ⟨#[]⟩,.string ⟨#[]⟩,.string ⟨#[]⟩,.string ⟨#[]⟩,.string ⟨#[]⟩,.string ⟨#[]⟩,.string ⟨#[]⟩,.string ⟨#[]⟩,.string ⟨#[]⟩,.slice none 0 0,.string ⟨#[]⟩,.string ⟨#[]⟩,.string ⟨#[]⟩,.string ⟨#[]⟩,.string ⟨#[]⟩,.string ⟨#[]⟩,.string ⟨#[]⟩,.string ⟨#[]⟩,.string ⟨#[]⟩,.int .i64 0,.int .i64 0,.int .i64 0,.int .i64 0,.string ⟨#[]⟩,.string ⟨#[]⟩,.string ⟨#[]⟩],true⟩:=by kernel_rfl
noncomputable def pe:Field:=br 79 0
theorem J6:pe.type=52:=by kernel_rfl
theorem J5:pe.offset=0:=by kernel_rfl
theorem J4:(pe.name = "_")=False:=eq_false (by decide +kernel)
noncomputable def pf:Field:=br 79 1
theorem J9:pf.type=52:=by kernel_rfl
theorem J8:pf.offset=1:=by kernel_rfl
theorem J7:(pf.name = "_")=False:=eq_false (by decide +kernel)
theorem Vh:bd prog 79=some ⟨.struct #[pe,pf],2,32,.agg #[.string ⟨#[]⟩,.string ⟨#[]⟩],true⟩:=by kernel_rfl
noncomputable def mE:Field:=br 108 0
theorem FN:mE.type=52:=by kernel_rfl
theorem FM:mE.offset=0:=by kernel_rfl
theorem FL:(mE.name = "_")=False:=eq_false (by decide +kernel)
noncomputable def mF:Field:=br 108 1
theorem FQ:mF.type=52:=by kernel_rfl
theorem FP:mF.offset=1:=by kernel_rfl
theorem FO:(mF.name = "_")=False:=eq_false (by decide +kernel)
theorem R8:bd prog 108=some ⟨.struct #[mE,mF],2,32,.agg #[.string ⟨#[]⟩,.string ⟨#[]⟩],true⟩:=by kernel_rfl
theorem KF:bd prog 115=some ⟨.array 2 3,2,16,.agg #[.int .i64 0,.int .i64 0],true⟩:=by kernel_rfl
theorem Sa:bd prog 130=some ⟨.array 3 79,6,96,.agg #[.string ⟨#[]⟩,.string ⟨#[]⟩,.string ⟨#[]⟩,.string ⟨#[]⟩,.string ⟨#[]⟩,.string ⟨#[]⟩],true⟩:=by kernel_rfl
theorem Sb:bd prog 172=some ⟨.array 3 3,3,24,.agg #[.int .i64 0,.int .i64 0,.int .i64 0],true⟩:=by kernel_rfl
theorem Sf:bd prog 206=some ⟨.array 3 52,3,48,.agg #[.string ⟨#[]⟩,.string ⟨#[]⟩,.string ⟨#[]⟩],true⟩:=by kernel_rfl
noncomputable def rh:Field:=br 251 0
theorem FT:rh.type=4:=by kernel_rfl
theorem FR:rh.offset=0:=by kernel_rfl
noncomputable def rl:Field:=br 251 1
theorem FV:rl.type=249:=by kernel_rfl
theorem FU:rl.offset=1:=by kernel_rfl
theorem Sh:bd prog 251=some ⟨.struct #[rh,rl],2,32,.agg #[.bool false,.slice none 0 0],true⟩:=by kernel_rfl
noncomputable def yz:Field:=br 300 0
theorem FW:yz.type=297:=by kernel_rfl
noncomputable def rn:Field:=br 300 1
theorem FY:rn.type=298:=by kernel_rfl
theorem FX:rn.offset=1:=by kernel_rfl
theorem So:bd prog 300=some ⟨.struct #[yz,rn],2,32,.agg #[.pointer none,.slice none 0 0],true⟩:=by kernel_rfl
noncomputable def rq:Field:=br 348 0
theorem F0:rq.type=79:=by kernel_rfl
theorem FZ:rq.offset=0:=by kernel_rfl
noncomputable def ru:Field:=br 348 1
theorem F4:ru.type=52:=by kernel_rfl
theorem F1:ru.offset=2:=by kernel_rfl
theorem Sq:bd prog 348=some ⟨.struct #[rq,ru],3,48,.agg #[.string ⟨#[]⟩,.string ⟨#[]⟩,.string ⟨#[]⟩],true⟩:=by kernel_rfl
theorem Ss:bd prog 349=some ⟨.array 3 348,9,144,.agg #[.string ⟨#[]⟩,.string ⟨#[]⟩,.string ⟨#[]⟩,.string ⟨#[]⟩,.string ⟨#[]⟩,.string ⟨#[]⟩,.string ⟨#[]⟩,.string ⟨#[]⟩,.string ⟨#[]⟩],true⟩:=by kernel_rfl
attribute [simp] UM Iw
attribute [simp] Iv Iy Ix IA Iz UN UO IC IB
attribute [simp] IE ID UP UQ UR US
attribute [simp] IG IF II IH IK IJ IM IL IP IN UT
attribute [simp] IS IQ IU IT UW UX
attribute [simp] IW IV IY IX U0
attribute [simp] I2 IZ I5 I3 I7 I6 U5
attribute [simp] Ja I9 I8 Jd Jc Jb Jg Jf Je U7 Jj Ji Jh
attribute [simp] Jm Jl Jk U8 Jp Jo Jn Js Jr Jq U9
attribute [simp] Ju Jt Jw Jv Jy Jx Vb
attribute [simp] JB JA Jz JE JD JC JH JG JF Vc Gn
attribute [simp] JK JJ JI JN JM JL Vd
attribute [simp] JP JO JR JQ
attribute [simp] JT JS JV JU JX JW JZ JY J3 J0 Ve
attribute [simp] J6 J5 J4 J9 J8 J7 Vh
attribute [simp] FN
attribute [simp] FM FL FQ FP FO R8 KF Sa Sb Sf
attribute [simp] FT FR FV FU Sh FW FY
attribute [simp] FX So F0 FZ F4 F1 Sq
attribute [simp] Ss
noncomputable def bS(f:FuncId)(args:List AV):Option AV:=
 match f,args with
 |252,[.str s,.int .i64 b,.int .i64 w]=>if s≠[]/\s.all isD=true/\s.length<=18/\b=10/\w=64 then some (.tuple [.int .u64 (fl s:Nat),.nilIface]) else none
 |256,[.int .u64 u,.int .i64 b]=>if 0<=u/\u<=18446744073709551615/\b=10 then some (.str (ai u.toNat)) else none
 |f,args=>ak f args
theorem Bn:qS prog (ag bS):=bP fun f V v h mem=>by
 unfold bS at h;split at h
 .split at h
  .rename_i X
   obtain⟨Z,U,h3,rfl,rfl⟩:=X;cases h;exact AX _ Z U h3 mem
  .cases h
 .split at h
  .rename_i X
   obtain⟨Z,U,rfl⟩:=X;cases h;have S:=(Int.toNat_lt Z).2 (show _<((18446744073709551616:Nat):Int) by omega);have:=zq _ S mem;rw[QQd Z] at this;exact this
  .cases h
 .have:=ez.fn _ _ mem ⟨v,none,[]⟩ (by unfold ag;simp only;rw[h])
  simpa [afh.mem] using this
noncomputable def bW:y9:=fun c Z M=>((ag bS).or ct) c Z M
theorem qO:qS prog bW:=Bn.or Ik
def vf:List Nat->Mem
 | []=>[.cells true 0 [.bool false,.qF],.cells true 1 []]
 |x::l=>[.cells true 0 [.bool false,.qF],.qK,.cells true 1 (iN .u64 (x::l))]
def sk:List Nat->AV
 | []=>.slice 1 0 0 none
 |x::l=>.slice 2 0 (l.length+1) none
theorem DG{K:Nat}(H:List UInt8)(hd:H.all isD=true)(hs:H.length<=1000000)(J:H.length<K){b:Code}(I:ah f210=[b]):
  ∃F:Env->Bool->Env,∀Z d,(ae Z 3=.str H/\ae Z 5=.slice 1 0 0 none)->
   aU (bd prog) (fun _=>[3,5]) bW K 44 0 true (.loop b) ⟨Z,vf [],d⟩=some (.exit 0,⟨F Z d,vf (iX H),d⟩)/\
   (ae (F Z d) 5=sk (iX H)/\ae (F Z d) 2=ae Z 2/\ae (F Z d) 4=ae Z 4):=by
 refine bl rfl (fun Z=>ae Z 3=.str H/\ae Z 5=.slice 1 0 0 none) (fun Z M =>ae M 5=sk (iX H)/\ae M 2=ae Z 2/\ae M 4=ae Z 4) ?_;rintro Z d ⟨h3,h5⟩;simp[ah,aE,f210] at I;have X:aw [3,5] (ad b) Z ((3,.str H)::(5,sk [])::Z)=aw [3,5] (ad b) Z Z:=by simp[aw,h3,h5,sk]
 rw[<-X];refine bG (α:=List UInt8×List Nat) (fun a=>⟨aw [3,5] (ad b) Z ((3,.str a.1)::(5,sk a.2)::Z),vf a.2,d⟩) (fun a=>a.1.length)
  (fun a=>a.1.all isD=true/\a.1.length<=H.length/\a.2++iX a.1=iX H) (.exit 0) _ d _ (by simp) ?_ K (H,[]) ⟨hd,L9 _,rfl⟩ J
 rintro ⟨s,done⟩ ⟨PP,Zl,J'⟩;simp only at PP Zl J';clear X;subst I;by_cases hs0:s=[]
 .right
  subst hs0;rw[Q9,List.append_nil] at J';rw[<-J'];simp
 .left
  have G:0<s.length:=List.length_pos_iff.2 hs0;rw[xO hs0] at J';have o:done.length<=1000000:=by have D:=(lW _ H (L9 _) hd).2.2;rw[<-J'] at D;simp at D;omega
  obtain⟨k,C⟩:=xE (s.length-9);rw[<-C] at J';obtain⟨n,X⟩:=xE (fl (s.drop k));have m:n<1000000000:=by rw[X,C];exact OY PP
  rw[<-X] at J';have w1:IntKind.i64.wrap ((s.length:Int)-9)=(s.length:Int)-9:=af;have O:(if (s.length:Int)-9<0 then (0:Int) else (s.length:Int)-9)=(k:Int):=by split<;>omega
  have j:k<=s.length:=by omega
  have L:(s.drop k).take (s.length-k)=s.drop k:=B5 (by simp);have V:s.drop k≠[]:=by intro e;have:=congrArg List.length e;simp at this;omega
  have U:=Av PP k;have S:(s.drop k).length<=18:=by simp;omega
  have N:(k:Int)<=(s.length:Int):=by omega
  have B:(done.length+1)*8<=140737488355328:=by omega
  have u:done.length+1<=140737488355328:=by omega
  obtain⟨sd,R⟩:=xE (s.drop k);rw[<-R] at L V U S X;refine⟨(s.take k,done++[n]),?_⟩;refine bC (r:=_/\_) (show((s.take k).all isD=true/\(s.take k).length<=H.length/\(done++[n])++iX (s.take k)=iX H)/\(s.take k).length<s.length by refine⟨⟨pB PP k,by simp;omega,?_⟩,by simp;omega⟩;rw[<-J'];simp) ?_
  clear J';have Y:0<(s.length:Int):=by omega
  cases done with
  |nil=>
   simp[vf,sk,bW,y9.or,ag,bS,G,w1,O,N,<-R,L,V,U,S,<-X,cr,Nat.testBit]
  |cons x l=>
   have W:(iN .u64 l).take l.length=iN .u64 l:=B5 (by simp);simp only[List.length_cons] at B u;simp[vf,sk,bW,y9.or,ag,bS,G,w1,O,N,<-R,L,V,U,S,<-X,W,B,u,cr,dC,Nat.testBit]
section
variable (z:Int)(hl:(ai z.natAbs).length<=1000000)
include z hl
theorem Gf:aa (bd prog) (fun _=>[3,5]) (aX prog) bW ((ai z.natAbs).length+1) 210 [.str (bL z)] []=
  some ⟨.agg [.bool (decide (z<0)),.slice 0 0 (aW (iX (ai z.natAbs))).length none],none,[.cells true 1 (iN .u64 (iX (ai z.natAbs)))]⟩:=by
 have C:aX prog 210=some f210:=by kernel_rfl
 obtain⟨b,U⟩:∃b,ah f210=[b]:=⟨_,rfl⟩
 obtain⟨F,X⟩:=DG (K:=(ai z.natAbs).length+1) (ai z.natAbs) (dH _) hl (by omega) U;simp[ah,aE,f210] at U;subst U;obtain⟨B,u,N⟩:=lW _ (ai z.natAbs) (L9 _) (dH _);have S:iX (ai z.natAbs)≠[]:=by rw[xO (jQ _)];simp
 obtain⟨Z,R⟩:=xE (iX (ai z.natAbs));rw[<-R] at X B u N S |-;have o:vf Z=[.cells true 0 [.bool false,.qF],.qK,.cells true 1 (iN .u64 Z)]:=by cases Z<;>first | exact absurd rfl S | rfl
 have m:sk Z=.slice 2 0 Z.length none:=by cases Z<;>first | exact absurd rfl S | rfl
 rw[o,m] at X;simp only[vf] at X;obtain⟨L,M⟩:=xE ((ai z.natAbs).length);obtain⟨c,j⟩:=xE (α:=Nat) (L / 9+1);obtain⟨O,V⟩:=xE (α:=Nat) (L / 9);rw[<-M] at X hl N |-;have w1:IntKind.i64.wrap ((L:Int) / 9)=(O:Int):=by rw[af];omega
 have Y :IntKind.i64.wrap ((L:Int).tdiv 9)=(O:Int):=by rw[Hc L 9,<-V];exact af
 have w2:IntKind.i64.wrap ((O:Int)+1)=(c:Int):=by rw[af];omega
 have W:8*(c:Int)<=281474976710656:=by omega
 have J:(c:Int)<=281474976710656:=by omega
 have hs2:∀G D l,bh .u64 (G::D::.cells true 1 (iN .u64 Z)::l) (.slice 2 0 Z.length none)=some Z:=fun G D l=>aR rfl (by simp) (B5 (by simp))
 have I:Z.length<=1000000000:=by omega
 clear j V;simp[aa,C,f210,bW,ct,cC,cg,bR,y9.or,ag,bS,ak,aF,aK,<-M,w1,w2,W,J,X,hs2,I,cv,aH]
theorem MQ(M:Mem):kO prog 210 [.str (bL z)] M (.agg [.bool (decide (z<0)),.slice M.length 0 (dig 1000000000 z.natAbs).length none]) (M++[.cells true 1 (iN .u64 (dig 1000000000 z.natAbs))]):=by
 obtain⟨S,X,R⟩:=lW _ (ai z.natAbs) (L9 _) (dH _);rw[dK] at X;have V:aW (iX (ai z.natAbs))=dig 1000000000 z.natAbs:=by rw[<-dS (by omega) S,X]
 have h:=(ar aj (aJ _) qO (aM _) (Gf z hl)).1;simp only[afh.mem,Option.getD_none,List.nil_append] at h;have U:=kO.agi (m2:=[.cells true 1 (iN .u64 (dig 1000000000 z.natAbs))]) h rfl (fun b s Z=>by
  match b with
  |0=>simp at Z;subst Z;exact⟨_,rfl,.row (by rw[<-V];exact dD _)⟩
  |b+1=>simp at Z)
 rw[V] at U;have h3:=kO.frame (M:=M) [] (m:=[]) (new:=[.cells true 1 (iN .u64 (dig 1000000000 z.natAbs))]) rfl (by simp) rfl (by simp) rfl U;simpa [AV.ren,AV.afz,fa] using h3
end
end Go.Proofs
namespace Go.Proofs
open Go.Eng Go.Shelf Go.RowKit Go.Sort
open Tryz
theorem LA{P:Program}{e:TypeId}{n s d:Nat}(hd:P.depth=d+1)(hs:P.cellsOf e=s+1)(H:sameLayout P P.depth e e=true)(I:1<=n):liesAt P P.depth e n 0 e 1=true:=by rw[hd] at H;simp[hd,liesAt,rowAt,hs,H,I]
theorem zC(n:Nat)(H:1<=n):liesAt prog prog.depth 300 n 0 300 1=true:=
 LA (s:=1) (d:=prog.depth-1) (by kernel_rfl) (by kernel_rfl) (by kernel_rfl) H
theorem xj:prog.cellsOf 300=2:=by kernel_rfl
theorem p9:(prog.info? 300).map (·.size)=some 2:=by kernel_rfl
theorem ua(b:Nat)(w:World)(h0:w.cell? ⟨b,0,none⟩=some (.pointer (some ⟨b,0,none⟩))):
  Calls prog 278 #[.pointer (some ⟨b,0,none⟩)] w fun e w' =>e=.returned (.tuple #[])/\w' =w:=by
 obtain⟨j,Z,_⟩:=Y2.1 p9
 go_enter func278,ntmps278
 go_wp2
 rw[Lib.run_neq_ptr_same w _ (tp:=297) (te:=300) (by kernel_rfl) Z]
 go_wp2
 go_end0
 exact⟨rfl,rfl⟩
theorem tz(b:Nat)(w:World)(h0:w.cell? ⟨b,0,none⟩=some (.pointer none))(n:Nat)(I:2<=n)(H:w.shape? b=some (300,n))(J:w.frozen? ⟨b,0,none⟩=false):
  Calls prog 278 #[.pointer (some ⟨b,0,none⟩)] w fun e w' =>e=.returned (.tuple #[])/\w' =w.setCell ⟨b,0,none⟩ (.pointer (some ⟨b,0,none⟩)):=by
 obtain⟨j,X,Z⟩:=Y2.1 p9;have V:prog.underlying 297=some (.pointer 300):=by kernel_rfl
 have U:prog.underlying 334=some .unsafePointer:=by kernel_rfl
 go_enter func278,ntmps278
 go_wp2
 rw[Lib.run_to_unsafe w ⟨b,0,none⟩ V U X (by rw[Z];decide) H (QXQ (Nat.zero_lt_succ 1) I)];simp only[Result.andThen];rw[Oper.upon_value]
 go_wp2
 rw[run_callFunc_extern func297 (by kernel_rfl) (by kernel_rfl) (by kernel_rfl) (e:=Extern.AbiNoEscape.same) (by kernel_rfl)];rw[Lib.run_noEscape];simp only[Result.andThen];rw[Oper.upon_value]
 go_wp2
 rw[Lib.run_from_unsafe w ⟨b,0,none⟩ U V X H (zC _ (by rw[xj];omega))];simp only[Result.andThen];rw[Oper.upon_value]
 go_wp2
 go_end0
 exact⟨rfl,rfl⟩
abbrev aO:Nat:=1000*(300+1)
theorem tx(mem:Mem)(b:Nat)(H:AV)(I:mem[b]? =some (.cells true aO [.ptr b 0,H])):
  kO prog 278 [.ptr b 0] mem (.tuple []) mem:=by
 refine⟨iC _ func278 (by kernel_rfl) (by kernel_rfl),fun base μ w Vs hG hH hV=>?_⟩;obtain⟨X,_,rfl,hV,rfl⟩:=hV;simp only[afj] at hV;have S:=hH.slot b _ I;simp only[afx] at S;obtain⟨O,el,G,N,F,g3,M,L⟩:=S;obtain⟨R,D,C,B⟩:=L trivial;obtain⟨V,Z,U⟩:=M 0 _ rfl;simp only[afj] at U;obtain⟨K,rfl⟩:=hV;rw[R] at U Z;rw[R];obtain⟨_,rfl⟩:=U;refine(ua (μ b).blk w (by simp only[World.cell?,N];exact Z)).mono ?_;rintro e w' ⟨rfl,rfl⟩;exact⟨_,_,_,μ,rfl,by simp[afj,afk],hH,.refl (L9 _),rfl,rfl⟩
theorem qA(mem:Mem)(b:Nat)(I:AV)(H:mem[b]? =some (.cells true aO [.afw,I])):
  kO prog 278 [.ptr b 0] mem (.tuple []) (mem.set b (.cells true aO [.ptr b 0,I])):=by
 refine⟨iC _ func278 (by kernel_rfl) (by kernel_rfl),fun base μ w Vs hG hH hV=>?_⟩;obtain⟨X,_,rfl,hV,rfl⟩:=hV;simp only[afj] at hV;have G:=hH.slot b _ H;simp only[afx] at G;obtain⟨Z,el,fr,N,F,g3,D,B⟩:=G;obtain⟨S,rfl,u,o⟩:=B trivial;obtain⟨V,R,C⟩:=D 0 _ rfl;obtain⟨m,O,Y⟩:=D 1 _ rfl;simp only[afj] at C;obtain⟨M,rfl⟩:=hV;rw[S] at R O;rw[S];subst C;have L:el=300:=by have:=F.2 (by decide);exact Nat.succ.inj this
 subst L;have K:w.cell? ⟨(μ b).blk,0,none⟩=some (.pointer none):=by simp only[World.cell?,N];exact R
 have ZH:Z.size=2\/2<Z.size:=by simp only[List.length_cons,List.length_nil] at g3;omega
 refine(tz (μ b).blk w K Z.size (by omega) (by simp only[World.shape?,N]) (by simp[World.frozen?,N])).mono ?_;rintro e w' ⟨rfl,rfl⟩;obtain⟨W,J⟩:=hH.write (w' :=w.setCell ⟨(μ b).blk,0,none⟩ (.pointer (some ⟨(μ b).blk,0,none⟩))) (s' :=.cells true aO [.ptr b 0,I]) H (pQ H) (fun _=>⟨_,QQY (gL H),rfl⟩) rfl rfl rfl rfl (by simp[World.setCell]) (fun k hk=>by simp[World.setCell,Array.getElem?_modify,Ne.symm hk]) (by
  simp only[afx];refine⟨Z.setIfInBounds 0 (.pointer (some ⟨(μ b).blk,0,none⟩)),300,(0,0),by simp[World.setCell,Array.getElem?_modify,N],F,g3,fun j v U=>?_,fun _=>⟨S,rfl,by simpa using u,o⟩⟩
  match j,U with
  |0,U=>
   simp at U;subst U;refine⟨.pointer (some ⟨(μ b).blk,0,none⟩),?_,by simp[afj,M,S]⟩;rw[S];have:0<Z.size:=by omega
   simp[this]
  |1,U=>
   simp at U;subst U;refine⟨m,?_,Y⟩;rw[S];simpa using O
  |j+2,U=>simp at U)
 exact⟨_,_,_,μ,rfl,by simp[afj,afk],W,J,rfl,rfl⟩
end Go.Proofs
namespace Go.Proofs
open Go.Eng
open Tryz
def iB(s:List UInt8):List AV:=s.map fun c=>.int .u8 (c.toNat:Int)
@[simp] theorem XJ (s:List UInt8):(iB s).length=s.length:=by simp[iB]
theorem Td(s t:List UInt8):iB (s++t)=iB s++iB t:=by simp[iB]
@[simp] theorem YQ:iB []=[]:=rfl
@[simp] theorem YC (m:Nat) (s:List UInt8):AV.afy m (iB s)=[]:=by
 induction s with
 |nil=>rfl
 |cons c s ih=>simpa [iB,AV.afy,AV.refs] using ih
@[simp] theorem YR (ρ:Nat->Option Nat) (s:List UInt8):AV.afz ρ (iB s)=iB s:=by
 induction s with
 |nil=>rfl
 |cons c s ih=>simpa [iB,AV.afz,AV.ren] using ih
@[simp] theorem YP (s:List UInt8) (p:AV->Prop):(∀x,x∈iB s->p x)↔∀c,c∈s->p (.int .u8 (c.toNat:Int)):=by simp[iB]
theorem kK(s:List UInt8):jF (iB s)=some s:=by
 induction s with
 |nil=>rfl
 |cons c s ih=>
  have Z:(0:Int)<=(c.toNat:Int)/\(c.toNat:Int)<256:=by have:=c.toNat_lt;omega
  show jF (.int .u8 (c.toNat:Int)::iB s)=_
  rw[jF,if_pos Z,ih];simp
noncomputable def gO:y9:=fun c Z M=>match c,Z with
 |.fn 278,[.ptr b 0]=>match M[b]? with
  |some (.cells true es [.afw,sl])=>if es=aO then some ⟨.tuple [],some (M.set b (.cells true aO [.ptr b 0,sl])),[]⟩ else none
  |some (.cells true es [.ptr b' 0,_])=>if es=aO/\b' =b then some ⟨.tuple [],none,[]⟩ else none
  |_=>none
 |_,_=>none
theorem oM:qS prog gO where
 fn f args mem r h:=by
  unfold gO at h;split at h
  .rename_i V
   cases V;split at h
   .rename_i b _ es X hb
    split at h
    .rename_i Z
     cases h;subst Z;simpa [afh.mem] using qA mem b X hb
    .cases h
   .rename_i b _ es b' X hb
    split at h
    .rename_i Z
     cases h;obtain⟨rfl,rfl⟩:=Z;simpa [afh.mem] using tx mem _ _ hb
    .cases h
   .cases h
  .cases h
 yld b args mem r h:=by unfold gO at h;split at h<;>simp_all
 pre c args mem r p h hp:=by
  unfold gO at h;split at h
  .split at h
   .split at h
    .cases h;cases hp;simp
    .cases h
   .split at h
    .cases h;cases hp
    .cases h
   .cases h
  .cases h
theorem Wm(s:List UInt8):(s.map fun c=>AV.int .u8 (c.toNat:Int))=iB s:=rfl
theorem BL(M:Mem)(b:Nat)(s:List UInt8)(H:M[b]? =some (.cells true aO [.afw,.qF]))(hs:s≠[])(I:s.length<=100000000):
  cE (bd prog) (fun _=>[]) (aX prog) gO 1 257 [.ptr b 0,.str s] M=some (.tuple [.int .i64 (s.length:Int),.nilIface],M.set b (.cells true aO [.ptr b 0,.slice M.length 0 s.length none])++[.cells true 6001 (iB s)]):=by
 have S:aX prog 257=some f257:=by kernel_rfl
 have X:b<M.length:=gL H;have R:s.length<=140737488355328:=by omega
 have Z:∀x,(M.set b x)[b]? =some x:=fun x=>QQY X
 have V:∀x l,(M.set b x++l)[b]? =some x:=fun x l=>by rw[GE (by simpa using X),Z]
 have U:∀x y l,(M.set b x++l).set b y=M.set b y++l:=fun x y l=>by rw[List.set_append_left _ _ (by simpa using X),List.set_set]
 clear X;simp[cE,S,f257,gO,H,hs,R,Z,V,U,Wm]
theorem uO(M:Mem)(b:Nat)(c:UInt8)(H:M[b]? =some (.cells true aO [.afw,.qF])):
  cE (bd prog) (fun _=>[]) (aX prog) gO 1 254 [.ptr b 0,.int .u8 (c.toNat:Int)] M=some (.nilIface,M.set b (.cells true aO [.ptr b 0,.slice (M.length+1) 0 1 none])++[.cells true 1 (iB [c]),.cells true 6001 (iB [c])]):=by
 have S:aX prog 254=some f254:=by kernel_rfl
 have X:b<M.length:=gL H;have Z:∀x,(M.set b x)[b]? =some x:=fun x=>QQY X
 have V:∀x l,(M.set b x++l)[b]? =some x:=fun x l=>by rw[GE (by simpa using X),Z]
 have U:∀x y l,(M.set b x++l).set b y=M.set b y++l:=fun x y l=>by rw[List.set_append_left _ _ (by simpa using X),List.set_set]
 clear X;simp[cE,S,f254,gO,H,Z,V,U,iB]
theorem BM(M:Mem)(b k:Nat)(t s:List UInt8)(H:M[b]? =some (.cells true aO [.ptr b 0,.slice k 0 t.length none]))(J:M[k]? =some (.cells true 6001 (iB t)))(I:k≠b)(W:t.length+s.length<=100000000):
  cE (bd prog) (fun _=>[]) (aX prog) gO 1 257 [.ptr b 0,.str s] M=some (.tuple [.int .i64 (s.length:Int),.nilIface],(M.set k .qK).set b (.cells true aO [.ptr b 0,.slice M.length 0 (t.length+s.length) none])++[.cells true 6001 (iB (t++s))]):=by
 have R:aX prog 257=some f257:=by kernel_rfl
 have Z:b<M.length:=gL H;have O:t.length+s.length<=140737488355328:=by omega
 have X:∀x,(M.set k x)[b]? =some (.cells true aO [.ptr b 0,.slice k 0 t.length none]):=fun x=>by rw[QQK I,H]
 have V:∀x l,(M.set k x++l)[b]? =some (.cells true aO [.ptr b 0,.slice k 0 t.length none]):=fun x l=>by rw[GE (by simpa using Z),X]
 have U:∀x y l,(M.set k x++l).set b y=(M.set k x).set b y++l:=fun x y l=>by rw[List.set_append_left _ _ (by simpa using Z)]
 have S:(iB t).take t.length=iB t:=B5 (by simp);clear Z;simp[cE,R,f257,gO,H,J,O,V,U,Wm,S,Td]
theorem zO(H s1 I J:afl)(t:List UInt8)(W:t≠[])(Y:t.length<=100000000):
  cE (bd prog) (fun _=>[]) (aX prog) cP 1 258 [.ptr 2 0] [H,s1,.cells true aO [.ptr 2 0,.slice 5 0 t.length none],I,J,.cells true 6001 (iB t)]=some (.str t,[H,s1,.cells true aO [.ptr 2 0,.slice 5 0 t.length none],I,J,.qK]):=by
 have X:aX prog 258=some f258:=by kernel_rfl
 have Z:(iB t).take t.length=iB t:=B5 (by simp);have V:(t.length:Int)<=9223372036854775807:=by omega
 have U:0<t.length:=List.length_pos_iff.2 W;simp[cE,X,f258,V,U,Z,kK,Nat.testBit]
theorem zP(H s1 I J W Y:afl)(t:List UInt8)(ht:t≠[])(hl:t.length<=100000000):
  cE (bd prog) (fun _=>[]) (aX prog) cP 1 258 [.ptr 2 0] [H,s1,.cells true aO [.ptr 2 0,.slice 7 0 t.length none],I,J,W,Y,.cells true 6001 (iB t)]=some (.str t,[H,s1,.cells true aO [.ptr 2 0,.slice 7 0 t.length none],I,J,W,Y,.qK]):=by
 have X:aX prog 258=some f258:=by kernel_rfl
 have Z:(iB t).take t.length=iB t:=B5 (by simp);have V:(t.length:Int)<=9223372036854775807:=by omega
 have U:0<t.length:=List.length_pos_iff.2 ht;simp[cE,X,f258,V,U,Z,kK,Nat.testBit]
theorem wq:∀{cs:List AV} {t:List UInt8},jF cs=some t->cs=iB t
 | [],t,h=>by cases h;rfl
 |v::l,t,h=>by
  cases v<;>try (unfold jF at h;cases h;done)
  rename_i k n;cases k<;>try (unfold jF at h;cases h;done)
  unfold jF at h;split at h
  .rename_i X
   split at h
   .rename_i r Z
    cases h;have:=wq Z;rw[this];have e:n=max n 0%256:=by omega
    simp only[iB,List.map_cons,List.cons.injEq,AV.int.injEq,true_and,and_true,UInt8.toNat_ofNat'];omega
   .cases h
  .cases h
noncomputable def gJ:y9:=fun c Z M=>match c,Z with
 |.fn 254,[.ptr b 0,.int .u8 n]=>match M[b]? with
  |some (.cells true es [.afw,.qF])=>if es=aO/\n=45 then some ⟨.nilIface,some (M.set b (.cells true aO [.ptr b 0,.slice (M.length+1) 0 1 none])),[.cells true 1 (iB [45]),.cells true 6001 (iB [45])]⟩ else none
  |_=>none
 |.fn 257,[.ptr b 0,.str s]=>match M[b]? with
  |some (.cells true es [.afw,.qF])=>if es=aO/\s≠[]/\s.length<=100000000 then some ⟨.tuple [.int .i64 (s.length:Int),.nilIface],some (M.set b (.cells true aO [.ptr b 0,.slice M.length 0 s.length none])),[.cells true 6001 (iB s)]⟩ else none
  |some (.cells true es [.ptr b' 0,.slice k 0 n none])=>match M[k]? with
   |some (.cells true es2 cs)=>match jF cs with
    |some t=>if es=aO/\b' =b/\es2=6001/\n=t.length/\k≠b/\t.length+s.length<=100000000 then
      some ⟨.tuple [.int .i64 (s.length:Int),.nilIface],some ((M.set k .qK).set b (.cells true aO [.ptr b 0,.slice M.length 0 (t.length+s.length) none])),[.cells true 6001 (iB (t++s))]⟩ else none
    |none=>none
   |_=>none
  |_=>none
 |.fn 258,[.ptr 2 0]=>match M with
  | [s0,s1,.cells true es [.ptr 2 0,.slice 5 0 n none],s3,s4,.cells true es2 cs]=>match jF cs with
   |some t=>if es=aO/\es2=6001/\n=t.length/\t≠[]/\t.length<=100000000 then
     some ⟨.str t,some [s0,s1,.cells true aO [.ptr 2 0,.slice 5 0 t.length none],s3,s4,.qK],[]⟩ else none
   |none=>none
  | [s0,s1,.cells true es [.ptr 2 0,.slice 7 0 n none],s3,s4,s5,s6,.cells true es2 cs]=>match jF cs with
   |some t=>if es=aO/\es2=6001/\n=t.length/\t≠[]/\t.length<=100000000 then
     some ⟨.str t,some [s0,s1,.cells true aO [.ptr 2 0,.slice 7 0 t.length none],s3,s4,s5,s6,.qK],[]⟩ else none
   |none=>none
  |_=>none
 |_,_=>none
theorem yx:qS prog gJ where
 fn f args mem r h:=by
  unfold gJ at h;split at h
  .rename_i V
   cases V;split at h
   .rename_i hb
    split at h
    .rename_i Z
     cases h;obtain⟨rfl,rfl⟩:=Z;exact cL aj (aJ _) oM (aM _) (uO mem _ 45 hb)
    .cases h
   .cases h
  .rename_i V
   cases V;split at h
   .rename_i hb
    split at h
    .rename_i Z
     cases h;obtain⟨rfl,X,h3⟩:=Z;exact cL aj (aJ _) oM (aM _) (BL mem _ _ hb X h3)
    .cases h
   .rename_i hb
    split at h
    .rename_i S
     split at h
     .rename_i U
      split at h
      .rename_i Z
       cases h;obtain⟨rfl,rfl,rfl,rfl,X,h3⟩:=Z;have:=wq U;subst this;exact cL aj (aJ _) oM (aM _) (BM mem _ _ _ _ hb S X h3)
      .cases h
     .cases h
    .cases h
   .cases h
  .rename_i V
   cases V;split at h
   .split at h
    .rename_i U
     split at h
     .rename_i Z
      cases h;obtain⟨rfl,rfl,rfl,X,h3⟩:=Z;have:=wq U;subst this;simpa [afh.mem] using cL aj (aJ _) (az _) (aM _) (zO _ _ _ _ _ X h3)
     .cases h
    .cases h
   .split at h
    .rename_i U
     split at h
     .rename_i Z
      cases h;obtain⟨rfl,rfl,rfl,X,h3⟩:=Z;have:=wq U;subst this;simpa [afh.mem] using cL aj (aJ _) (az _) (aM _) (zP _ _ _ _ _ _ _ X h3)
     .cases h
    .cases h
   .cases h
  .cases h
 yld b args mem r h:=by unfold gJ at h;split at h<;>simp_all
 pre c args mem r p h hp:=by
  unfold gJ at h
  repeat' split at h
  all_goals first
   |(cases h;done)
   |(cases h;cases hp;simp;done)
theorem SB{T:TypeId->Option TyI}{lv:Code->List Nat}{G:FuncId->Option Func}{O:y9}{K:Nat}{f:FuncId}{args:List AV}{mem H :Mem}{fn:Func}{c:Code}{v:AV}{e:Exit}{I :Env}{ks:List Nat}(hf:G f=some fn)(hb:fn.body=some c)(hl:args.length<=fn.ntmps)(he:e=.normal\/e=.ret)(h:aU T lv O K fn.ntmps mem.length true c ⟨dL 0 args,mem,false⟩=some (e,⟨I,H,true⟩))(J:jT T fn.results.toList I H =some v)(W:qs mem.length H 1000 (v.refs mem.length++(H.take mem.length).flatMap (afl.refs mem.length)) []=ks)(Y:DX mem.length H.length ks=true):
  aa T lv G O K f args mem=some ⟨v.ren (rho mem.length ks),some ((H.take mem.length).map (afl.ren (rho mem.length ks))),af4 mem.length ks H⟩:=by
 unfold aa;simp only[hf,hb];rw[if_pos hl,h];rcases he with rfl | rfl
 .simp only[J,if_true]
  rw[W,if_pos Y]
 .simp only[J,if_true]
  rw[W,if_pos Y]
theorem tK{n:Nat}{A:List Nat}(hA:A.length=n)(hn:0<n)(hl:n<=1000000000)(I bA H m0 eb:Nat)(ob oA:Bool)(M:Nat->Mem)(J:(M n).length=m0)(F':∀j,j<n->(M (j+1)).length<=(M j).length/\m0<(M j).length)(hs:∀j,j<=n->(M j)[I]? =some (.cells ob eb [.slice bA 0 n none]))(hr:∀j,j<=n->(M j)[bA]? =some (.cells oA 1 (iN .u64 A)))(W:∀j,j<n->((M j).take m0).all (fun s=>(s.refs m0).isEmpty)=false)(hy:∀j,j<n->gH prog H [.int .i64 (j:Int),.int .u64 ((A.getD j 0:Nat):Int)] (M (j+1)) (.bool true) (M j))(ks:List Nat)(Z0:qs m0 (M 0) 1000 (((M 0).take m0).flatMap (afl.refs m0)) []=ks)(Y:DX m0 (M 0).length ks=true):
  kO prog 279 [.yield H,.ptr I 0] (M n) (.tuple []) (((M 0).take m0).map (afl.ren (rho m0 ks))++af4 m0 ks (M 0)):=by
 have hG:aX prog 279=some f279:=by kernel_rfl
 obtain⟨O,hO,U⟩:=jR (P:=prog) (fun j:Nat=>j<n) (fun _=>.yld H) (fun j=>[.int .i64 (j:Int),.int .u64 ((A.getD j 0:Nat):Int)]) (fun j=>M (j+1)) (fun j=>⟨.bool true,some ((M j).take (M (j+1)).length),(M j).drop (M (j+1)).length⟩)
  (fun j C=>⟨by simpa [afh.mem] using hy j C,fun q hq=>by cases hq;rw[S2];have:=(F' j C).1;omega⟩)
  (fun i j _ _ _ h _=>by
   simp only[List.cons.injEq,AV.int.injEq] at h;have:i=j:=by omega
   rw[this])
 obtain⟨b,V⟩:∃b,ah f279=[b]:=⟨_,rfl⟩
 have loop:∃F:Env->Env,∀Z,(ae Z 0=.yield H/\ae Z 1=.ptr I 0/\ae Z 3=.int .i64 ((n:Int)-1))->
   aU (bd prog) (fun _=>[3]) O (n+1) 19 m0 true (.loop b) ⟨Z,M n,false⟩=some (.exit 0,⟨F Z,M 0,true⟩)/\True:=by
  refine uY rfl false true (fun Z=>ae Z 0=.yield H/\ae Z 1=.ptr I 0/\ae Z 3=.int .i64 ((n:Int)-1)) (fun _ _=>True) ?_;rintro Z ⟨h0,S,h3⟩;simp[ah,aE,f279] at V;have B:aw [3] (ad b) Z ((3,.int .i64 ((n:Int)-1))::Z)=aw [3] (ad b) Z Z:=by simp[aw,h3]
  rw[<-B];have u:(⟨aw [3] (ad b) Z ((3,.int .i64 ((n:Int)-1))::Z),M n,false⟩:XS)=⟨aw [3] (ad b) Z ((3,.int .i64 ((n:Int)-1))::Z),M n,decide (n<n)⟩:=by simp
  rw[u];refine bG (α:=Nat) (fun k=>⟨aw [3] (ad b) Z ((3,.int .i64 ((k:Int)-1))::Z),M k,decide (k<n)⟩) id (fun k=>k<=n) (.exit 0) (M 0) true (fun _=>True) (by simp) ?_ (n+1) n (L9 _) (by simp);intro k hk;clear B u;subst V;cases k with
  |zero=>
   right;simp[hn]
  |succ k=>
   left;have X:k<n:=by omega
   have e1:(((k+1:Nat):Int)-1)=(k:Int):=by omega
   have w1:IntKind.i64.wrap ((k:Int)-1)=(k:Int)-1:=af;have l1:¬(M k).length<=m0:=by have:=(F' k X).2;omega
   have R:=hs (k+1) (by omega);have r1:=hr (k+1) (by omega);have o:=U k X;have N:=W k X;obtain⟨x,hx,Y9⟩:=dh (l:=A) (i:=k) (by omega);have hg:A.getD k 0=x:=by simp[List.getD,hx]
   rw[hg] at o;rw[e1];refine⟨k,?_⟩;have ad7 :(k:Int)<(n:Int):=by omega
   simp[h0,S,w1,l1,J,R,r1,Y9,hA,X,o,-List.all_eq_false];refine⟨fun h=>?_,by omega⟩;exfalso;have:((List.take m0 (M k)).all fun s=>(afl.refs m0 s).isEmpty)=true:=List.all_eq_true.2 fun s hs=>by
    have S:=h s hs;have L:afl.refs m0 s=[]:=by cases s<;>exact S
    rw[L];rfl
   rw[N] at this;cases this
 obtain⟨F,hF⟩:=loop;simp[ah,aE,f279] at V;subst V;have w1:IntKind.i64.wrap ((n:Int)-1)=(n:Int)-1:=af;have R:=hs n (by omega);have K:∃m,aU (bd prog) (fun _=>[3]) O (n+1) f279.ntmps (M n).length true (f279.body.getD .skip) ⟨dL 0 [.yield H,.ptr I 0],M n,false⟩=some (.normal,⟨m,M 0,true⟩):=by simp[f279,R,w1,J,hF]
 obtain⟨m,K⟩:=K;have D:aa (bd prog) (fun _=>[3]) (aX prog) O (n+1) 279 [.yield H,.ptr I 0] (M n)=some ⟨.tuple [],some (((M 0).take m0).map (afl.ren (rho m0 ks))),af4 m0 ks (M 0)⟩:=by have:=SB (T:=bd prog) (G:=aX prog) (v:=.tuple []) hG rfl (by simp[f279]) (.inl rfl) K rfl (ks:=ks) (by rw[J];simpa [AV.refs,AV.afy] using Z0) (by rw[J];exact Y);rw[J] at this;simpa [AV.ren,AV.afz] using this
 have L:=(ar aj (aJ _) hO (aM _) D).1;simpa [afh.mem] using L
end Go.Proofs
