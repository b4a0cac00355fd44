/- See H38. -/
import Derived.Test.YthpgbelancmpjaaGreatDoorH11
import Derived.Test.YthpgbelancmpjaaGreatDoorH12
import Derived.Shelf.Strings.Builder1
set_option linter.all false
set_option maxRecDepth 100000
set_option maxHeartbeats 40000000
namespace Go.Proofs
open Go.Eng
open Tryz
noncomputable def bh(t:TypeId)(k:Nat):Field:=match prog.underlying t with
 |some (.struct fs)=>fs.getD k default
 |_=>default
noncomputable def Yp:Field:=bh 7 0
noncomputable def Yq:Field:=bh 7 1
noncomputable def Yr:Field:=bh 7 2
noncomputable def Yt:Field:=bh 7 3
noncomputable def Xz:Field:=bh 18 0
theorem VL:aL prog 23=some ⟨.array 2 22,2,2,.agg #[.int .i8 0,.int .i8 0],true⟩:=by kernel_rfl
noncomputable def uk:Field:=bh 25 0
theorem IM:uk.type=5:=by kernel_rfl
theorem IL:uk.offset=0:=by kernel_rfl
noncomputable def um:Field:=bh 25 1
theorem IP:um.type=23:=by kernel_rfl
theorem IN:um.offset=1:=by kernel_rfl
noncomputable def uq:Field:=bh 25 2
theorem IS:uq.type=4:=by kernel_rfl
theorem IQ:uq.offset=3:=by kernel_rfl
theorem VM:aL prog 25=some ⟨.struct #[uk,um,uq],4,4,.agg #[.int .u8 0,.int .i8 0,.int .i8 0,.bool false],true⟩:=by kernel_rfl
theorem VN:aL prog 26=some ⟨.array 6 22,6,6,.agg #[.int .i8 0,.int .i8 0,.int .i8 0,.int .i8 0,.int .i8 0,.int .i8 0],true⟩:=by kernel_rfl
noncomputable def ur:Field:=bh 28 0
theorem IU:ur.type=26:=by kernel_rfl
theorem IT:ur.offset=0:=by kernel_rfl
noncomputable def uu:Field:=bh 28 1
theorem IW:uu.type=4:=by kernel_rfl
theorem IV:uu.offset=6:=by kernel_rfl
theorem VO:aL prog 28=some ⟨.struct #[ur,uu],7,7,.agg #[.int .i8 0,.int .i8 0,.int .i8 0,.int .i8 0,.int .i8 0,.int .i8 0,.bool false],true⟩:=by kernel_rfl
theorem VP:aL prog 29=some ⟨.array 2 28,14,14,.agg #[.int .i8 0,.int .i8 0,.int .i8 0,.int .i8 0,.int .i8 0,.int .i8 0,.bool false,.int .i8 0,.int .i8 0,.int .i8 0,.int .i8 0,.int .i8 0,.int .i8 0,.bool false],true⟩:=by kernel_rfl
theorem VQ:aL prog 30=some ⟨.array 8 22,8,8,.agg #[.int .i8 0,.int .i8 0,.int .i8 0,.int .i8 0,.int .i8 0,.int .i8 0,.int .i8 0,.int .i8 0],true⟩:=by kernel_rfl
theorem VR:aL prog 32=some ⟨.array 4 22,4,4,.agg #[.int .i8 0,.int .i8 0,.int .i8 0,.int .i8 0],true⟩:=by kernel_rfl
noncomputable def uv:Field:=bh 34 0
theorem IY:uv.type=5:=by kernel_rfl
theorem IX:uv.offset=0:=by kernel_rfl
noncomputable def uw:Field:=bh 34 1
theorem I2:uw.type=28:=by kernel_rfl
theorem IZ:uw.offset=1:=by kernel_rfl
noncomputable def ux:Field:=bh 34 2
theorem I5:ux.type=29:=by kernel_rfl
theorem I3:ux.offset=8:=by kernel_rfl
noncomputable def uy:Field:=bh 34 3
theorem I7:uy.type=30:=by kernel_rfl
theorem I6:uy.offset=22:=by kernel_rfl
noncomputable def uz:Field:=bh 34 4
theorem I9:uz.type=32:=by kernel_rfl
theorem I8:uz.offset=30:=by kernel_rfl
theorem VS:aL prog 34=some ⟨.struct #[uv,uw,ux,uy,uz],34,34,.agg #[.int .u8 0,.int .i8 0,.int .i8 0,.int .i8 0,.int .i8 0,.int .i8 0,.int .i8 0,.bool false,.int .i8 0,.int .i8 0,.int .i8 0,.int .i8 0,.int .i8 0,.int .i8 0,.bool false,.int .i8 0,.int .i8 0,.int .i8 0,.int .i8 0,.int .i8 0,.int .i8 0,.bool false,.int .i8 0,.int .i8 0,.int .i8 0,.int .i8 0,.int .i8 0,.int .i8 0,.int .i8 0,.int .i8 0,.int .i8 0,.int .i8 0,.int .i8 0,.int .i8 0],true⟩:=by kernel_rfl
noncomputable def uA:Field:=bh 44 0
theorem Jb:uA.type=41:=by kernel_rfl
theorem Ja:uA.offset=0:=by kernel_rfl
noncomputable def uB:Field:=bh 44 1
theorem Jd:uB.type=42:=by kernel_rfl
theorem Jc:uB.offset=1:=by kernel_rfl
theorem VV:aL prog 44=some ⟨.struct #[uA,uB],2,48,.agg #[.slice none 0 0,.slice none 0 0],true⟩:=by kernel_rfl
noncomputable def uC:Field:=bh 51 0
theorem Jf:uC.type=47:=by kernel_rfl
theorem Je:uC.offset=0:=by kernel_rfl
noncomputable def uD:Field:=bh 51 1
theorem Jh:uD.type=48:=by kernel_rfl
theorem Jg:uD.offset=1:=by kernel_rfl
noncomputable def uF:Field:=bh 51 2
theorem Jj:uF.type=49:=by kernel_rfl
theorem Ji:uF.offset=2:=by kernel_rfl
theorem V0:aL prog 51=some ⟨.struct #[uC,uD,uF],3,72,.agg #[.slice none 0 0,.slice none 0 0,.slice none 0 0],true⟩:=by kernel_rfl
noncomputable def pf:Field:=bh 54 0
theorem Jm:pf.type=52:=by kernel_rfl
theorem Jl:pf.offset=0:=by kernel_rfl
theorem Jk:(pf.name = "_")=False:=eq_false (by decide +kernel)
noncomputable def pg:Field:=bh 54 1
theorem Jp:pg.type=52:=by kernel_rfl
theorem Jo:pg.offset=1:=by kernel_rfl
theorem Jn:(pg.name = "_")=False:=eq_false (by decide +kernel)
noncomputable def ph:Field:=bh 54 2
theorem Js:ph.type=52:=by kernel_rfl
theorem Jr:ph.offset=2:=by kernel_rfl
theorem Jq:(ph.name = "_")=False:=eq_false (by decide +kernel)
theorem V5:aL prog 54=some ⟨.struct #[pf,pg,ph],3,48,.agg #[.string ⟨#[]⟩,.string ⟨#[]⟩,.string ⟨#[]⟩],true⟩:=by kernel_rfl
noncomputable def pj:Field:=bh 56 0
theorem Jv:pj.type=54:=by kernel_rfl
theorem Ju:pj.offset=0:=by kernel_rfl
theorem Jt:(pj.name = "_")=False:=eq_false (by decide +kernel)
noncomputable def po:Field:=bh 56 1
theorem Jy:po.type=52:=by kernel_rfl
theorem Jx:po.offset=3:=by kernel_rfl
theorem Jw:(po.name = "_")=False:=eq_false (by decide +kernel)
theorem V6:aL prog 56=some ⟨.struct #[pj,po],4,64,.agg #[.string ⟨#[]⟩,.string ⟨#[]⟩,.string ⟨#[]⟩,.string ⟨#[]⟩],true⟩:=by kernel_rfl
noncomputable def pq:Field:=bh 58 0
theorem JB:pq.type=56:=by kernel_rfl
theorem JA:pq.offset=0:=by kernel_rfl
theorem Jz:(pq.name = "_")=False:=eq_false (by decide +kernel)
noncomputable def pr:Field:=bh 58 1
theorem JE:pr.type=54:=by kernel_rfl
theorem JD:pr.offset=4:=by kernel_rfl
theorem JC:(pr.name = "_")=False:=eq_false (by decide +kernel)
theorem V7:aL prog 58=some ⟨.struct #[pq,pr],7,112,.agg #[.string ⟨#[]⟩,.string ⟨#[]⟩,.string ⟨#[]⟩,.string ⟨#[]⟩,.string ⟨#[]⟩,.string ⟨#[]⟩,.string ⟨#[]⟩],true⟩:=by kernel_rfl
noncomputable def uG:Field:=bh 61 0
theorem JG:uG.type=54:=by kernel_rfl
theorem JF:uG.offset=0:=by kernel_rfl
noncomputable def uH:Field:=bh 61 1
theorem JI:uH.type=59:=by kernel_rfl
theorem JH:uH.offset=3:=by kernel_rfl
noncomputable def uI:Field:=bh 61 2
theorem JK:uI.type=54:=by kernel_rfl
theorem JJ:uI.offset=4:=by kernel_rfl
theorem V9:aL prog 61=some ⟨.struct #[uG,uH,uI],7,120,.agg #[.string ⟨#[]⟩,.string ⟨#[]⟩,.string ⟨#[]⟩,.slice none 0 0,.string ⟨#[]⟩,.string ⟨#[]⟩,.string ⟨#[]⟩],true⟩:=by kernel_rfl
noncomputable def pw:Field:=bh 63 0
theorem JN:pw.type=56:=by kernel_rfl
theorem JM:pw.offset=0:=by kernel_rfl
theorem JL:(pw.name = "_")=False:=eq_false (by decide +kernel)
noncomputable def pz:Field:=bh 63 1
theorem JQ:pz.type=52:=by kernel_rfl
theorem JP:pz.offset=4:=by kernel_rfl
theorem JO:(pz.name = "_")=False:=eq_false (by decide +kernel)
noncomputable def pB:Field:=bh 63 2
theorem JT:pB.type=9:=by kernel_rfl
theorem JS:pB.offset=5:=by kernel_rfl
theorem JR:(pB.name = "_")=False:=eq_false (by decide +kernel)
theorem Wa:aL prog 63=some ⟨.struct #[pw,pz,pB],6,96,.agg #[.string ⟨#[]⟩,.string ⟨#[]⟩,.string ⟨#[]⟩,.string ⟨#[]⟩,.string ⟨#[]⟩,.string ⟨#[]⟩],true⟩:=by kernel_rfl
theorem GP:aL prog 64=some ⟨.array 4 3,4,32,.agg #[.int .i64 0,.int .i64 0,.int .i64 0,.int .i64 0],true⟩:=by kernel_rfl
noncomputable def pD:Field:=bh 66 0
theorem JW:pD.type=64:=by kernel_rfl
theorem JV:pD.offset=0:=by kernel_rfl
theorem JU:(pD.name = "_")=False:=eq_false (by decide +kernel)
noncomputable def pE:Field:=bh 66 1
theorem JZ:pE.type=54:=by kernel_rfl
theorem JY:pE.offset=4:=by kernel_rfl
theorem JX:(pE.name = "_")=False:=eq_false (by decide +kernel)
theorem Wb:aL prog 66=some ⟨.struct #[pD,pE],7,80,.agg #[.int .i64 0,.int .i64 0,.int .i64 0,.int .i64 0,.string ⟨#[]⟩,.string ⟨#[]⟩,.string ⟨#[]⟩],true⟩:=by kernel_rfl
noncomputable def uJ:Field:=bh 68 0
theorem J3:uJ.type=3:=by kernel_rfl
theorem J0:uJ.offset=0:=by kernel_rfl
noncomputable def uK:Field:=bh 68 1
theorem J5:uK.type=9:=by kernel_rfl
theorem J4:uK.offset=1:=by kernel_rfl
noncomputable def uL:Field:=bh 68 2
theorem J7:uL.type=51:=by kernel_rfl
theorem J6:uL.offset=2:=by kernel_rfl
noncomputable def uM:Field:=bh 68 3
theorem J9:uM.type=58:=by kernel_rfl
theorem J8:uM.offset=5:=by kernel_rfl
noncomputable def uN:Field:=bh 68 4
theorem Kb:uN.type=61:=by kernel_rfl
theorem Ka:uN.offset=12:=by kernel_rfl
noncomputable def uO:Field:=bh 68 5
theorem Kd:uO.type=63:=by kernel_rfl
theorem Kc:uO.offset=19:=by kernel_rfl
noncomputable def uP:Field:=bh 68 6
theorem Kf:uP.type=66:=by kernel_rfl
theorem Ke:uP.offset=25:=by kernel_rfl
theorem Wc:aL prog 68=some ⟨.struct #[uJ,uK,uL,uM,uN,uO,uP],32,504,.agg #[.int .i64 0,.string ⟨#[]⟩,.slice none 0 0,.slice none 0 0,.slice none 0 0,.string ⟨#[]⟩,.string ⟨#[]⟩,.string ⟨#[]⟩,.string ⟨#[]⟩,.string ⟨#[]⟩,.string ⟨#[]⟩,.string ⟨#[]⟩,.string ⟨#[]⟩,.string ⟨#[]⟩,.string ⟨#[]⟩,.slice none 0 0,.string ⟨#[]⟩,.string ⟨#[]⟩,.string ⟨#[]⟩,.string ⟨#[]⟩,.string ⟨#[]⟩,.string ⟨#[]⟩,.string ⟨#[]⟩,.string ⟨#[]⟩,.string ⟨#[]⟩,.int .i64 0,.int .i64 0,.int .i64 0,.int .i64 0,.string ⟨#[]⟩,.string ⟨#[]⟩,.string ⟨#[]⟩],true⟩:=by kernel_rfl
noncomputable def pF:Field:=bh 79 0
theorem Kj:pF.type=52:=by kernel_rfl
theorem Kh:pF.offset=0:=by kernel_rfl
theorem Kg:(pF.name = "_")=False:=eq_false (by decide +kernel)
noncomputable def pG:Field:=bh 79 1
theorem Km:pG.type=52:=by kernel_rfl
theorem Kl:pG.offset=1:=by kernel_rfl
theorem Kk:(pG.name = "_")=False:=eq_false (by decide +kernel)
theorem Wf:aL prog 79=some ⟨.struct #[pF,pG],2,32,.agg #[.string ⟨#[]⟩,.string ⟨#[]⟩],true⟩:=by kernel_rfl
noncomputable def uQ:Field:=bh 95 0
theorem Ko:uQ.type=5:=by kernel_rfl
theorem Kn:uQ.offset=0:=by kernel_rfl
noncomputable def uR:Field:=bh 95 1
theorem Kq:uR.type=3:=by kernel_rfl
theorem Kp:uR.offset=1:=by kernel_rfl
noncomputable def uS:Field:=bh 95 2
theorem Ks:uS.type=9:=by kernel_rfl
theorem Kr:uS.offset=2:=by kernel_rfl
noncomputable def uT:Field:=bh 95 3
theorem Ku:uT.type=52:=by kernel_rfl
theorem Kt:uT.offset=3:=by kernel_rfl
theorem Wg:aL prog 95=some ⟨.struct #[uQ,uR,uS,uT],4,48,.agg #[.int .u8 0,.int .i64 0,.string ⟨#[]⟩,.string ⟨#[]⟩],true⟩:=by kernel_rfl
theorem Tx:aL prog 100=some ⟨.array 3 54,9,144,.agg #[.string ⟨#[]⟩,.string ⟨#[]⟩,.string ⟨#[]⟩,.string ⟨#[]⟩,.string ⟨#[]⟩,.string ⟨#[]⟩,.string ⟨#[]⟩,.string ⟨#[]⟩,.string ⟨#[]⟩],true⟩:=by kernel_rfl
noncomputable def yY:Field:=bh 102 0
theorem Gj:yY.type=100:=by kernel_rfl
noncomputable def yZ:Field:=bh 102 1
theorem Gk:yZ.type=54:=by kernel_rfl
theorem Ty:aL prog 102=some ⟨.struct #[yY,yZ],12,192,.agg #[.string ⟨#[]⟩,.string ⟨#[]⟩,.string ⟨#[]⟩,.string ⟨#[]⟩,.string ⟨#[]⟩,.string ⟨#[]⟩,.string ⟨#[]⟩,.string ⟨#[]⟩,.string ⟨#[]⟩,.string ⟨#[]⟩,.string ⟨#[]⟩,.string ⟨#[]⟩],true⟩:=by kernel_rfl
noncomputable def mL:Field:=bh 108 0
theorem Gn:mL.type=52:=by kernel_rfl
theorem Gm:mL.offset=0:=by kernel_rfl
theorem Gl:(mL.name = "_")=False:=eq_false (by decide +kernel)
noncomputable def mM:Field:=bh 108 1
theorem Gr:mM.type=52:=by kernel_rfl
theorem Gq:mM.offset=1:=by kernel_rfl
theorem Gp:(mM.name = "_")=False:=eq_false (by decide +kernel)
theorem Tz:aL prog 108=some ⟨.struct #[mL,mM],2,32,.agg #[.string ⟨#[]⟩,.string ⟨#[]⟩],true⟩:=by kernel_rfl
theorem KJ:aL prog 115=some ⟨.array 2 3,2,16,.agg #[.int .i64 0,.int .i64 0],true⟩:=by kernel_rfl
theorem TB:aL prog 172=some ⟨.array 3 3,3,24,.agg #[.int .i64 0,.int .i64 0,.int .i64 0],true⟩:=by kernel_rfl
noncomputable def rp:Field:=bh 251 0
theorem Gt:rp.type=4:=by kernel_rfl
theorem Gs:rp.offset=0:=by kernel_rfl
noncomputable def rq:Field:=bh 251 1
theorem Gv:rq.type=249:=by kernel_rfl
theorem Gu:rq.offset=1:=by kernel_rfl
theorem TF:aL prog 251=some ⟨.struct #[rp,rq],2,32,.agg #[.bool false,.slice none 0 0],true⟩:=by kernel_rfl
noncomputable def y8:Field:=bh 300 0
theorem Gw:y8.type=297:=by kernel_rfl
noncomputable def rz:Field:=bh 300 1
theorem Gy:rz.type=298:=by kernel_rfl
theorem Gx:rz.offset=1:=by kernel_rfl
theorem TK:aL prog 300=some ⟨.struct #[y8,rz],2,32,.agg #[.pointer none,.slice none 0 0],true⟩:=by kernel_rfl
attribute [simp] VL IM
attribute [simp] IL IP IN IS IQ VM VN IU IT
attribute [simp] IW IV VO VP VQ VR
attribute [simp] IY IX I2 IZ I5 I3 I7 I6 I9 I8 VS
attribute [simp] Jb Ja Jd Jc VV
attribute [simp] Jf Je Jh Jg Jj Ji V0
attribute [simp] Jm Jl Jk Jp Jo Jn Js Jr Jq V5 Jv Ju Jt
attribute [simp] Jy Jx Jw V6 JB JA Jz JE JD JC V7
attribute [simp] JG JF JI JH JK JJ V9
attribute [simp] JN JM JL JQ JP JO JT JS JR Wa GP
attribute [simp] JW JV JU JZ JY JX Wb
attribute [simp] J3 J0 J5 J4
attribute [simp] J7 J6 J9 J8 Kb Ka Kd Kc Kf Ke Wc
attribute [simp] Kj Kh Kg Km Kl Kk Wf
attribute [simp] Ko Kn Kq Kp Ks Kr Ku Kt Wg Tx
attribute [simp] Gj Gk Ty Gn
attribute [simp] Gm Gl Gr Gq Gp Tz KJ TB
attribute [simp] Gt Gs Gv Gu TF Gw Gy
attribute [simp] Gx TK
noncomputable def bQ(f:FuncId)(args:List AV):Option AV:=
 match f,args with
 |252,[.str s,.int .i64 b,.int .i64 w]=>if s≠[]/\s.all isD=true/\s.length<=18/\b=10/\w=64 then some (.tuple [.int .u64 (eP s:Nat),.nilIface]) else none
 |256,[.int .u64 u,.int .i64 b]=>if 0<=u/\u<=18446744073709551615/\b=10 then some (.str (aj u.toNat)) else none
 |f,args=>an f args
theorem BR:afs prog (ai bQ):=bT fun f V v h mem=>by
 unfold bQ at h;split at h
 .split at h
  .rename_i X
   obtain⟨Z,U,h3,rfl,rfl⟩:=X;cases h;exact Bo _ Z U h3 mem
  .cases h
 .split at h
  .rename_i X
   obtain⟨Z,U,rfl⟩:=X;cases h;have S:=(Int.toNat_lt Z).2 (show _<((18446744073709551616:Nat):Int) by omega);have:=zO _ S mem;rw[QQb Z] at this;exact this
  .cases h
 .have:=ep.fn _ _ mem ⟨v,none,[]⟩ (by unfold ai;simp only;rw[h])
  simpa [afw.mem] using this
noncomputable def ca:afu:=fun c Z M=>((ai bQ).or cE) c Z M
theorem qV:afs prog ca:=BR.or Iz
def vu:List Nat->Mem
 | []=>[.cells true 0 [.bool false,.kO],.cells true 1 []]
 |x::l=>[.cells true 0 [.bool false,.kO],.y9,.cells true 1 (iN .u64 (x::l))]
def sw:List Nat->AV
 | []=>.slice 1 0 0 none
 |x::l=>.slice 2 0 (l.length+1) none
theorem Eo{K:Nat}(H:List UInt8)(hd:H.all isD=true)(hs:H.length<=1000000)(J:H.length<K){b:Code}(I:ah f210=[b]):
  ∃F:Env->Bool->Env,∀Z d,(aa Z 3=.str H/\aa Z 5=.slice 1 0 0 none)->
   aO (aL prog) (fun _=>[3,5]) ca K 44 0 true (.loop b) ⟨Z,vu [],d⟩=some (.exit 0,⟨F Z d,vu (iH H),d⟩)/\
   (aa (F Z d) 5=sw (iH H)/\aa (F Z d) 2=aa Z 2/\aa (F Z d) 4=aa Z 4):=by
 refine bG rfl (fun Z=>aa Z 3=.str H/\aa Z 5=.slice 1 0 0 none) (fun Z D =>aa D 5=sw (iH H)/\aa D 2=aa Z 2/\aa D 4=aa Z 4) ?_;rintro Z d ⟨h3,h5⟩;simp[ah,aw,f210] at I;have X:au [3,5] (ae b) Z ((3,.str H)::(5,sw [])::Z)=au [3,5] (ae b) Z Z:=by simp[au,h3,h5,sw]
 rw[<-X];refine bZ (α:=List UInt8×List Nat) (fun a=>⟨au [3,5] (ae b) Z ((3,.str a.1)::(5,sw a.2)::Z),vu a.2,d⟩) (fun a=>a.1.length)
  (fun a=>a.1.all isD=true/\a.1.length<=H.length/\a.2++iH a.1=iH H) (.exit 0) _ d _ (by simp) ?_ K (H,[]) ⟨hd,Es _,rfl⟩ J
 rintro ⟨s,done⟩ ⟨I',hle,H1⟩;simp only at I' hle H1;clear X;subst I;by_cases hs0:s=[]
 .right
  subst hs0;rw[Q8,List.append_nil] at H1;rw[<-H1];simp
 .left
  have C:0<s.length:=List.length_pos_iff.2 hs0;rw[yw hs0] at H1;have u:done.length<=1000000:=by have B:=(lW _ H (Es _) hd).2.2;rw[<-H1] at B;simp at B;omega
  obtain⟨k,y⟩:=xE (s.length-9);rw[<-y] at H1;obtain⟨n,X⟩:=xE (eP (s.drop k));have o:n<1000000000:=by rw[X,y];exact OD I'
  rw[<-X] at H1;have w1:IntKind.i64.wrap ((s.length:Int)-9)=(s.length:Int)-9:=af;have O:(if (s.length:Int)-9<0 then (0:Int) else (s.length:Int)-9)=(k:Int):=by split<;>omega
  have m:k<=s.length:=by omega
  have V:(s.drop k).take (s.length-k)=s.drop k:=An (by simp);have U:s.drop k≠[]:=by intro e;have:=congrArg List.length e;simp at this;omega
  have S:=AK I' k;have R:(s.drop k).length<=18:=by simp;omega
  have N:(k:Int)<=(s.length:Int):=by omega
  have M:(done.length+1)*8<=140737488355328:=by omega
  have G:done.length+1<=140737488355328:=by omega
  obtain⟨W,Q⟩:=xE (s.drop k);rw[<-Q] at V U S R X;refine⟨(s.take k,done++[n]),?_⟩;refine bF (r:=_/\_) (show((s.take k).all isD=true/\(s.take k).length<=H.length/\(done++[n])++iH (s.take k)=iH H)/\(s.take k).length<s.length by refine⟨⟨pR I' k,by simp;omega,?_⟩,by simp;omega⟩;rw[<-H1];simp) ?_
  clear H1;have j:0<(s.length:Int):=by omega
  cases done with
  |nil=>
   simp[vu,sw,ca,afu.or,ai,bQ,C,w1,O,N,<-Q,V,U,S,R,<-X,cD,Nat.testBit]
  |cons x l=>
   have Y:(iN .u64 l).take l.length=iN .u64 l:=An (by simp);simp only[List.length_cons] at M G;simp[vu,sw,ca,afu.or,ai,bQ,C,w1,O,N,<-Q,V,U,S,R,<-X,Y,M,G,cD,dJ,Nat.testBit]
section
variable (z:Int)(hl:(aj z.natAbs).length<=1000000)
include z hl
theorem GJ:ad (aL prog) (fun _=>[3,5]) (bq prog) ca ((aj z.natAbs).length+1) 210 [.str (bH z)] []=
  some ⟨.agg [.bool (decide (z<0)),.slice 0 0 (bd (iH (aj z.natAbs))).length none],none,[.cells true 1 (iN .u64 (iH (aj z.natAbs)))]⟩:=by
 have C:bq prog 210=some f210:=by kernel_rfl
 obtain⟨b,U⟩:∃b,ah f210=[b]:=⟨_,rfl⟩
 obtain⟨F,X⟩:=Eo (K:=(aj z.natAbs).length+1) (aj z.natAbs) (dM _) hl (by omega) U;simp[ah,aw,f210] at U;subst U;obtain⟨B,y,N⟩:=lW _ (aj z.natAbs) (Es _) (dM _);have S:iH (aj z.natAbs)≠[]:=by rw[yw (jC _)];simp
 obtain⟨Z,R⟩:=xE (iH (aj z.natAbs));rw[<-R] at X B y N S |-;have u:vu Z=[.cells true 0 [.bool false,.kO],.y9,.cells true 1 (iN .u64 Z)]:=by cases Z<;>first | exact absurd rfl S | rfl
 have o:sw Z=.slice 2 0 Z.length none:=by cases Z<;>first | exact absurd rfl S | rfl
 rw[u,o] at X;simp only[vu] at X;obtain⟨L,M⟩:=xE ((aj z.natAbs).length);obtain⟨c,m⟩:=xE (α:=Nat) (L / 9+1);obtain⟨Q,V⟩:=xE (α:=Nat) (L / 9);rw[<-M] at X hl N |-;have w1:IntKind.i64.wrap ((L:Int) / 9)=(Q:Int):=by rw[af];omega
 have j :IntKind.i64.wrap ((L:Int).tdiv 9)=(Q:Int):=by rw[HE L 9,<-V];exact af
 have w2:IntKind.i64.wrap ((Q:Int)+1)=(c:Int):=by rw[af];omega
 have Y:8*(c:Int)<=281474976710656:=by omega
 have W:(c:Int)<=281474976710656:=by omega
 have hs2:∀G D l,bl .u64 (G::D::.cells true 1 (iN .u64 Z)::l) (.slice 2 0 Z.length none)=some Z:=fun G D l=>aW rfl (by simp) (An (by simp))
 have O:Z.length<=1000000000:=by omega
 clear m V;simp[ad,C,f210,ca,cE,cH,ct,bP,afu.or,ai,bQ,an,aC,aR,<-M,w1,w2,Y,W,X,hs2,O,aD,ag]
theorem MM(M:Mem):bz prog 210 [.str (bH z)] M (.agg [.bool (decide (z<0)),.slice M.length 0 (dig 1000000000 z.natAbs).length none]) (M++[.cells true 1 (iN .u64 (dig 1000000000 z.natAbs))]):=by
 obtain⟨S,X,R⟩:=lW _ (aj z.natAbs) (Es _) (dM _);rw[dP] at X;have V:bd (iH (aj z.natAbs))=dig 1000000000 z.natAbs:=by rw[<-dW (by omega) S,X]
 have h:=(aB ak (aI _) qV (aQ _) (GJ z hl)).1;simp only[afw.mem,Option.getD_none,List.nil_append] at h;have U:=bz.agu (m2:=[.cells true 1 (iN .u64 (dig 1000000000 z.natAbs))]) h rfl (fun b s Z=>by
  match b with
  |0=>simp at Z;subst Z;exact⟨_,rfl,.row (by rw[<-V];exact dK _)⟩
  |b+1=>simp at Z)
 rw[V] at U;have h3:=bz.frame (M:=M) [] (m:=[]) (new:=[.cells true 1 (iN .u64 (dig 1000000000 z.natAbs))]) rfl (by simp) rfl (by simp) rfl U;simpa [AV.ren,AV.afR,back] using h3
end
end Go.Proofs
namespace Go.Proofs
open Go.Eng Go.Shelf Go.RowKit Go.Sort
open Tryz
theorem LC{P:Program}{e:TypeId}{n s d:Nat}(hd:P.depth=d+1)(hs:P.cellsOf e=s+1)(H:sameLayout P P.depth e e=true)(I:1<=n):liesAt P P.depth e n 0 e 1=true:=by rw[hd] at H;simp[hd,liesAt,rowAt,hs,H,I]
theorem zZ(n:Nat)(H:1<=n):liesAt prog prog.depth 300 n 0 300 1=true:=
 LC (s:=1) (d:=prog.depth-1) (by kernel_rfl) (by kernel_rfl) (by kernel_rfl) H
theorem xN:prog.cellsOf 300=2:=by kernel_rfl
theorem qu:(prog.info? 300).map (·.size)=some 2:=by kernel_rfl
theorem uh(b:Nat)(w:World)(h0:w.cell? ⟨b,0,none⟩=some (.pointer (some ⟨b,0,none⟩))):
  Calls prog 278 #[.pointer (some ⟨b,0,none⟩)] w fun e w' =>e=.returned (.tuple #[])/\w' =w:=by
 obtain⟨j,Z,_⟩:=Pi.1 qu
 go_enter func278,ntmps278
 go_wp2
 rw[Lib.run_neq_ptr_same w _ (tp:=297) (te:=300) (by kernel_rfl) Z]
 go_wp2
 go_end0
 exact⟨rfl,rfl⟩
theorem tI(b:Nat)(w:World)(h0:w.cell? ⟨b,0,none⟩=some (.pointer none))(n:Nat)(I:2<=n)(H:w.shape? b=some (300,n))(J:w.frozen? ⟨b,0,none⟩=false):
  Calls prog 278 #[.pointer (some ⟨b,0,none⟩)] w fun e w' =>e=.returned (.tuple #[])/\w' =w.setCell ⟨b,0,none⟩ (.pointer (some ⟨b,0,none⟩)):=by
 obtain⟨j,X,Z⟩:=Pi.1 qu;have V:prog.underlying 297=some (.pointer 300):=by kernel_rfl
 have U:prog.underlying 334=some .unsafePointer:=by kernel_rfl
 go_enter func278,ntmps278
 go_wp2
 rw[Lib.run_to_unsafe w ⟨b,0,none⟩ V U X (by rw[Z];decide) H (QQi (Nat.zero_lt_succ 1) I)];simp only[Result.andThen];rw[Oper.upon_value]
 go_wp2
 rw[run_callFunc_extern func297 (by kernel_rfl) (by kernel_rfl) (by kernel_rfl) (e:=Extern.AbiNoEscape.same) (by kernel_rfl)];rw[Lib.run_noEscape];simp only[Result.andThen];rw[Oper.upon_value]
 go_wp2
 rw[Lib.run_from_unsafe w ⟨b,0,none⟩ U V X H (zZ _ (by rw[xN];omega))];simp only[Result.andThen];rw[Oper.upon_value]
 go_wp2
 go_end0
 exact⟨rfl,rfl⟩
abbrev aT:Nat:=1000*(300+1)
theorem tG(mem:Mem)(b:Nat)(H:AV)(I:mem[b]? =some (.cells true aT [.ptr b 0,H])):
  bz prog 278 [.ptr b 0] mem (.tuple []) mem:=by
 refine⟨ic _ func278 (by kernel_rfl) (by kernel_rfl),fun base μ w Vs hG hH hV=>?_⟩;obtain⟨X,_,rfl,hV,rfl⟩:=hV;simp only[afx] at hV;have S:=hH.slot b _ I;simp only[afM] at S;obtain⟨Q,el,K,g1,G,g3,O,N⟩:=S;obtain⟨R,F,D,C⟩:=N trivial;obtain⟨V,Z,U⟩:=O 0 _ rfl;simp only[afx] at U;obtain⟨M,rfl⟩:=hV;rw[R] at U Z;rw[R];obtain⟨_,rfl⟩:=U;refine(uh (μ b).blk w (by simp only[World.cell?,g1];exact Z)).mono ?_;rintro e w' ⟨rfl,rfl⟩;exact⟨_,_,_,μ,rfl,by simp[afx,afy],hH,.refl (Es _),rfl,rfl⟩
theorem qP(mem:Mem)(b:Nat)(I:AV)(H:mem[b]? =some (.cells true aT [.afL,I])):
  bz prog 278 [.ptr b 0] mem (.tuple []) (mem.set b (.cells true aT [.ptr b 0,I])):=by
 refine⟨ic _ func278 (by kernel_rfl) (by kernel_rfl),fun base μ w Vs hG hH hV=>?_⟩;obtain⟨X,_,rfl,hV,rfl⟩:=hV;simp only[afx] at hV;have G:=hH.slot b _ H;simp only[afM] at G;obtain⟨Z,el,fr,g1,F,g3,D,B⟩:=G;obtain⟨S,rfl,y,u⟩:=B trivial;obtain⟨V,R,C⟩:=D 0 _ rfl;obtain⟨o,Q,O⟩:=D 1 _ rfl;simp only[afx] at C;obtain⟨N,rfl⟩:=hV;rw[S] at R Q;rw[S];subst C;have M:el=300:=by have:=F.2 (by decide);exact Nat.succ.inj this
 subst M;have K:w.cell? ⟨(μ b).blk,0,none⟩=some (.pointer none):=by simp only[World.cell?,g1];exact R
 have m:Z.size=2\/2<Z.size:=by simp only[List.length_cons,List.length_nil] at g3;omega
 refine(tI (μ b).blk w K Z.size (by omega) (by simp only[World.shape?,g1]) (by simp[World.frozen?,g1])).mono ?_;rintro e w' ⟨rfl,rfl⟩;obtain⟨Y,W⟩:=hH.write (w' :=w.setCell ⟨(μ b).blk,0,none⟩ (.pointer (some ⟨(μ b).blk,0,none⟩))) (s' :=.cells true aT [.ptr b 0,I]) H (qg H) (fun _=>⟨_,QQQ (gL H),rfl⟩) rfl rfl rfl rfl (by simp[World.setCell]) (fun k J=>by simp[World.setCell,Array.getElem?_modify,Ne.symm J]) (by
  simp only[afM];refine⟨Z.setIfInBounds 0 (.pointer (some ⟨(μ b).blk,0,none⟩)),300,(0,0),by simp[World.setCell,Array.getElem?_modify,g1],F,g3,fun j v U=>?_,fun _=>⟨S,rfl,by simpa using y,u⟩⟩
  match j,U with
  |0,U=>
   simp at U;subst U;refine⟨.pointer (some ⟨(μ b).blk,0,none⟩),?_,by simp[afx,N,S]⟩;rw[S];have:0<Z.size:=by omega
   simp[this]
  |1,U=>
   simp at U;subst U;refine⟨o,?_,O⟩;rw[S];simpa using Q
  |j+2,U=>simp at U)
 exact⟨_,_,_,μ,rfl,by simp[afx,afy],Y,W,rfl,rfl⟩
end Go.Proofs
namespace Go.Proofs
open Go.Eng
open Tryz
def iB(s:List UInt8):List AV:=s.map fun c=>.int .u8 (c.toNat:Int)
@[simp] theorem YR (s:List UInt8):(iB s).length=s.length:=by simp[iB]
theorem Ui(s t:List UInt8):iB (s++t)=iB s++iB t:=by simp[iB]
@[simp] theorem ZY:iB []=[]:=rfl
@[simp] theorem ZD (m:Nat) (s:List UInt8):AV.afN m (iB s)=[]:=by
 induction s with
 |nil=>rfl
 |cons c s ih=>simpa [iB,AV.afN,AV.refs] using ih
@[simp] theorem ZZ (ρ:Nat->Option Nat) (s:List UInt8):AV.afR ρ (iB s)=iB s:=by
 induction s with
 |nil=>rfl
 |cons c s ih=>simpa [iB,AV.afR,AV.ren] using ih
@[simp] theorem ZX (s:List UInt8) (p:AV->Prop):(∀x,x∈iB s->p x)↔∀c,c∈s->p (.int .u8 (c.toNat:Int)):=by simp[iB]
theorem kI(s:List UInt8):jt (iB s)=some s:=by
 induction s with
 |nil=>rfl
 |cons c s ih=>
  have Z:(0:Int)<=(c.toNat:Int)/\(c.toNat:Int)<256:=by have:=c.toNat_lt;omega
  show jt (.int .u8 (c.toNat:Int)::iB s)=_
  rw[jt,if_pos Z,ih];simp
noncomputable def gC:afu:=fun c Z M=>match c,Z with
 |.fn 278,[.ptr b 0]=>match M[b]? with
  |some (.cells true es [.afL,sl])=>if es=aT then some ⟨.tuple [],some (M.set b (.cells true aT [.ptr b 0,sl])),[]⟩ else none
  |some (.cells true es [.ptr b' 0,_])=>if es=aT/\b' =b then some ⟨.tuple [],none,[]⟩ else none
  |_=>none
 |_,_=>none
theorem pc:afs prog gC where
 fn f args mem r h:=by
  unfold gC at h;split at h
  .rename_i V
   cases V;split at h
   .rename_i b _ es X hb
    split at h
    .rename_i Z
     cases h;subst Z;simpa [afw.mem] using qP mem b X hb
    .cases h
   .rename_i b _ es b' X hb
    split at h
    .rename_i Z
     cases h;obtain⟨rfl,rfl⟩:=Z;simpa [afw.mem] using tG mem _ _ hb
    .cases h
   .cases h
  .cases h
 yld b args mem r h:=by unfold gC at h;split at h<;>simp_all
 pre c args mem r p h hp:=by
  unfold gC at h;split at h
  .split at h
   .split at h
    .cases h;cases hp;simp
    .cases h
   .split at h
    .cases h;cases hp
    .cases h
   .cases h
  .cases h
theorem Xi(s:List UInt8):(s.map fun c=>AV.int .u8 (c.toNat:Int))=iB s:=rfl
theorem Cp(M:Mem)(b:Nat)(s:List UInt8)(H:M[b]? =some (.cells true aT [.afL,.kO]))(hs:s≠[])(I:s.length<=100000000):
  ao (aL prog) (fun _=>[]) (bq prog) gC 1 257 [.ptr b 0,.str s] M=some (.tuple [.int .i64 (s.length:Int),.nilIface],M.set b (.cells true aT [.ptr b 0,.slice M.length 0 s.length none])++[.cells true 6001 (iB s)]):=by
 have S:bq prog 257=some f257:=by kernel_rfl
 have Z:b<M.length:=gL H;have R:s.length<=140737488355328:=by omega
 have X:∀x,(M.set b x)[b]? =some x:=fun x=>QQQ Z
 have V:∀x l,(M.set b x++l)[b]? =some x:=fun x l=>by rw[GE (by simpa using Z),X]
 have U:∀x y l,(M.set b x++l).set b y=M.set b y++l:=fun x y l=>by rw[List.set_append_left _ _ (by simpa using Z),List.set_set]
 clear Z;simp[ao,S,f257,gC,H,hs,R,X,V,U,Xi]
theorem uX(M:Mem)(b:Nat)(c:UInt8)(H:M[b]? =some (.cells true aT [.afL,.kO])):
  ao (aL prog) (fun _=>[]) (bq prog) gC 1 254 [.ptr b 0,.int .u8 (c.toNat:Int)] M=some (.nilIface,M.set b (.cells true aT [.ptr b 0,.slice (M.length+1) 0 1 none])++[.cells true 1 (iB [c]),.cells true 6001 (iB [c])]):=by
 have S:bq prog 254=some f254:=by kernel_rfl
 have Z:b<M.length:=gL H;have X:∀x,(M.set b x)[b]? =some x:=fun x=>QQQ Z
 have V:∀x l,(M.set b x++l)[b]? =some x:=fun x l=>by rw[GE (by simpa using Z),X]
 have U:∀x y l,(M.set b x++l).set b y=M.set b y++l:=fun x y l=>by rw[List.set_append_left _ _ (by simpa using Z),List.set_set]
 clear Z;simp[ao,S,f254,gC,H,X,V,U,iB]
theorem Cq(M:Mem)(b k:Nat)(t s:List UInt8)(H:M[b]? =some (.cells true aT [.ptr b 0,.slice k 0 t.length none]))(J:M[k]? =some (.cells true 6001 (iB t)))(I:k≠b)(W:t.length+s.length<=100000000):
  ao (aL prog) (fun _=>[]) (bq prog) gC 1 257 [.ptr b 0,.str s] M=some (.tuple [.int .i64 (s.length:Int),.nilIface],(M.set k .y9).set b (.cells true aT [.ptr b 0,.slice M.length 0 (t.length+s.length) none])++[.cells true 6001 (iB (t++s))]):=by
 have R:bq prog 257=some f257:=by kernel_rfl
 have Z:b<M.length:=gL H;have Q:t.length+s.length<=140737488355328:=by omega
 have X:∀x,(M.set k x)[b]? =some (.cells true aT [.ptr b 0,.slice k 0 t.length none]):=fun x=>by rw[QQK I,H]
 have V:∀x l,(M.set k x++l)[b]? =some (.cells true aT [.ptr b 0,.slice k 0 t.length none]):=fun x l=>by rw[GE (by simpa using Z),X]
 have U:∀x y l,(M.set k x++l).set b y=(M.set k x).set b y++l:=fun x y l=>by rw[List.set_append_left _ _ (by simpa using Z)]
 have S:(iB t).take t.length=iB t:=An (by simp);clear Z;simp[ao,R,f257,gC,H,J,Q,V,U,Xi,S,Ui]
theorem Aj(H s1 I J:afz)(t:List UInt8)(W:t≠[])(Y:t.length<=100000000):
  ao (aL prog) (fun _=>[]) (bq prog) bC 1 258 [.ptr 2 0] [H,s1,.cells true aT [.ptr 2 0,.slice 5 0 t.length none],I,J,.cells true 6001 (iB t)]=some (.str t,[H,s1,.cells true aT [.ptr 2 0,.slice 5 0 t.length none],I,J,.y9]):=by
 have X:bq prog 258=some f258:=by kernel_rfl
 have Z:(iB t).take t.length=iB t:=An (by simp);have V:(t.length:Int)<=9223372036854775807:=by omega
 have U:0<t.length:=List.length_pos_iff.2 W;simp[ao,X,f258,V,U,Z,kI,Nat.testBit]
theorem Ak(H s1 I J W Y:afz)(t:List UInt8)(ht:t≠[])(hl:t.length<=100000000):
  ao (aL prog) (fun _=>[]) (bq prog) bC 1 258 [.ptr 2 0] [H,s1,.cells true aT [.ptr 2 0,.slice 7 0 t.length none],I,J,W,Y,.cells true 6001 (iB t)]=some (.str t,[H,s1,.cells true aT [.ptr 2 0,.slice 7 0 t.length none],I,J,W,Y,.y9]):=by
 have X:bq prog 258=some f258:=by kernel_rfl
 have Z:(iB t).take t.length=iB t:=An (by simp);have V:(t.length:Int)<=9223372036854775807:=by omega
 have U:0<t.length:=List.length_pos_iff.2 ht;simp[ao,X,f258,V,U,Z,kI,Nat.testBit]
theorem wQ:∀{cs:List AV} {t:List UInt8},jt cs=some t->cs=iB t
 | [],t,h=>by cases h;rfl
 |v::l,t,h=>by
  cases v<;>try (unfold jt at h;cases h;done)
  rename_i k n;cases k<;>try (unfold jt at h;cases h;done)
  unfold jt at h;split at h
  .rename_i X
   split at h
   .rename_i r Z
    cases h;have:=wQ Z;rw[this];have e:n=max n 0%256:=by omega
    simp only[iB,List.map_cons,List.cons.injEq,AV.int.injEq,true_and,and_true,UInt8.toNat_ofNat'];omega
   .cases h
  .cases h
noncomputable def gw:afu:=fun c Z M=>match c,Z with
 |.fn 254,[.ptr b 0,.int .u8 n]=>match M[b]? with
  |some (.cells true es [.afL,.kO])=>if es=aT/\n=45 then some ⟨.nilIface,some (M.set b (.cells true aT [.ptr b 0,.slice (M.length+1) 0 1 none])),[.cells true 1 (iB [45]),.cells true 6001 (iB [45])]⟩ else none
  |_=>none
 |.fn 257,[.ptr b 0,.str s]=>match M[b]? with
  |some (.cells true es [.afL,.kO])=>if es=aT/\s≠[]/\s.length<=100000000 then some ⟨.tuple [.int .i64 (s.length:Int),.nilIface],some (M.set b (.cells true aT [.ptr b 0,.slice M.length 0 s.length none])),[.cells true 6001 (iB s)]⟩ else none
  |some (.cells true es [.ptr b' 0,.slice k 0 n none])=>match M[k]? with
   |some (.cells true es2 cs)=>match jt cs with
    |some t=>if es=aT/\b' =b/\es2=6001/\n=t.length/\k≠b/\t.length+s.length<=100000000 then
      some ⟨.tuple [.int .i64 (s.length:Int),.nilIface],some ((M.set k .y9).set b (.cells true aT [.ptr b 0,.slice M.length 0 (t.length+s.length) none])),[.cells true 6001 (iB (t++s))]⟩ else none
    |none=>none
   |_=>none
  |_=>none
 |.fn 258,[.ptr 2 0]=>match M with
  | [s0,s1,.cells true es [.ptr 2 0,.slice 5 0 n none],s3,s4,.cells true es2 cs]=>match jt cs with
   |some t=>if es=aT/\es2=6001/\n=t.length/\t≠[]/\t.length<=100000000 then
     some ⟨.str t,some [s0,s1,.cells true aT [.ptr 2 0,.slice 5 0 t.length none],s3,s4,.y9],[]⟩ else none
   |none=>none
  | [s0,s1,.cells true es [.ptr 2 0,.slice 7 0 n none],s3,s4,s5,s6,.cells true es2 cs]=>match jt cs with
   |some t=>if es=aT/\es2=6001/\n=t.length/\t≠[]/\t.length<=100000000 then
     some ⟨.str t,some [s0,s1,.cells true aT [.ptr 2 0,.slice 7 0 t.length none],s3,s4,s5,s6,.y9],[]⟩ else none
   |none=>none
  |_=>none
 |_,_=>none
theorem yU:afs prog gw where
 fn f args mem r h:=by
  unfold gw at h;split at h
  .rename_i V
   cases V;split at h
   .rename_i hb
    split at h
    .rename_i Z
     cases h;obtain⟨rfl,rfl⟩:=Z;exact aX ak (aI _) pc (aQ _) (uX mem _ 45 hb)
    .cases h
   .cases h
  .rename_i V
   cases V;split at h
   .rename_i hb
    split at h
    .rename_i Z
     cases h;obtain⟨rfl,X,h3⟩:=Z;exact aX ak (aI _) pc (aQ _) (Cp mem _ _ hb X h3)
    .cases h
   .rename_i hb
    split at h
    .rename_i S
     split at h
     .rename_i U
      split at h
      .rename_i Z
       cases h;obtain⟨rfl,rfl,rfl,rfl,X,h3⟩:=Z;have:=wQ U;subst this;exact aX ak (aI _) pc (aQ _) (Cq mem _ _ _ _ hb S X h3)
      .cases h
     .cases h
    .cases h
   .cases h
  .rename_i V
   cases V;split at h
   .split at h
    .rename_i U
     split at h
     .rename_i Z
      cases h;obtain⟨rfl,rfl,rfl,X,h3⟩:=Z;have:=wQ U;subst this;simpa [afw.mem] using aX ak (aI _) (ar _) (aQ _) (Aj _ _ _ _ _ X h3)
     .cases h
    .cases h
   .split at h
    .rename_i U
     split at h
     .rename_i Z
      cases h;obtain⟨rfl,rfl,rfl,X,h3⟩:=Z;have:=wQ U;subst this;simpa [afw.mem] using aX ak (aI _) (ar _) (aQ _) (Ak _ _ _ _ _ _ _ X h3)
     .cases h
    .cases h
   .cases h
  .cases h
 yld b args mem r h:=by unfold gw at h;split at h<;>simp_all
 pre c args mem r p h hp:=by
  unfold gw at h
  repeat' split at h
  all_goals first
   |(cases h;done)
   |(cases h;cases hp;simp;done)
theorem TW{T:TypeId->Option TyI}{lv:Code->List Nat}{G:FuncId->Option Func}{O:afu}{K:Nat}{f:FuncId}{args:List AV}{mem H :Mem}{fn:Func}{c:Code}{v:AV}{e:Exit}{W :Env}{ks:List Nat}(hf:G f=some fn)(hb:fn.body=some c)(hl:args.length<=fn.ntmps)(he:e=.normal\/e=.ret)(h:aO T lv O K fn.ntmps mem.length true c ⟨dQ 0 args,mem,false⟩=some (e,⟨W,H,true⟩))(Y:jG T fn.results.toList W H =some v)(I:qM mem.length H 1000 (v.refs mem.length++(H.take mem.length).flatMap (afz.refs mem.length)) []=ks)(J:EI mem.length H.length ks=true):
  ad T lv G O K f args mem=some ⟨v.ren (rho mem.length ks),some ((H.take mem.length).map (afz.ren (rho mem.length ks))),agp mem.length ks H⟩:=by
 unfold ad;simp only[hf,hb];rw[if_pos hl,h];rcases he with rfl | rfl
 .simp only[Y,if_true]
  rw[I,if_pos J]
 .simp only[Y,if_true]
  rw[I,if_pos J]
theorem tN{n:Nat}{A:List Nat}(hA:A.length=n)(hn:0<n)(hl:n<=1000000000)(I bA H m0 eb:Nat)(ob oA:Bool)(M:Nat->Mem)(J:(M n).length=m0)(C':∀j,j<n->(M (j+1)).length<=(M j).length/\m0<(M j).length)(hs:∀j,j<=n->(M j)[I]? =some (.cells ob eb [.slice bA 0 n none]))(hr:∀j,j<=n->(M j)[bA]? =some (.cells oA 1 (iN .u64 A)))(W:∀j,j<n->((M j).take m0).all (fun s=>(s.refs m0).isEmpty)=false)(hy:∀j,j<n->gp prog H [.int .i64 (j:Int),.int .u64 ((A.getD j 0:Nat):Int)] (M (j+1)) (.bool true) (M j))(ks:List Nat)(Y:qM m0 (M 0) 1000 (((M 0).take m0).flatMap (afz.refs m0)) []=ks)(aeK:EI m0 (M 0).length ks=true):
  bz prog 279 [.yield H,.ptr I 0] (M n) (.tuple []) (((M 0).take m0).map (afz.ren (rho m0 ks))++agp m0 ks (M 0)):=by
 have hG:bq prog 279=some f279:=by kernel_rfl
 obtain⟨O,hO,S⟩:=jF (P:=prog) (fun j:Nat=>j<n) (fun _=>.yld H) (fun j=>[.int .i64 (j:Int),.int .u64 ((A.getD j 0:Nat):Int)]) (fun j=>M (j+1)) (fun j=>⟨.bool true,some ((M j).take (M (j+1)).length),(M j).drop (M (j+1)).length⟩)
  (fun j y=>⟨by simpa [afw.mem] using hy j y,fun q hq=>by cases hq;rw[M0];have:=(C' j y).1;omega⟩)
  (fun i j _ _ _ h _=>by
   simp only[List.cons.injEq,AV.int.injEq] at h;have:i=j:=by omega
   rw[this])
 obtain⟨b,U⟩:∃b,ah f279=[b]:=⟨_,rfl⟩
 have loop:∃F:Env->Env,∀Z,(aa Z 0=.yield H/\aa Z 1=.ptr I 0/\aa Z 3=.int .i64 ((n:Int)-1))->
   aO (aL prog) (fun _=>[3]) O (n+1) 19 m0 true (.loop b) ⟨Z,M n,false⟩=some (.exit 0,⟨F Z,M 0,true⟩)/\True:=by
  refine vn rfl false true (fun Z=>aa Z 0=.yield H/\aa Z 1=.ptr I 0/\aa Z 3=.int .i64 ((n:Int)-1)) (fun _ _=>True) ?_;rintro Z ⟨h0,R,h3⟩;simp[ah,aw,f279] at U;have V:au [3] (ae b) Z ((3,.int .i64 ((n:Int)-1))::Z)=au [3] (ae b) Z Z:=by simp[au,h3]
  rw[<-V];have u:(⟨au [3] (ae b) Z ((3,.int .i64 ((n:Int)-1))::Z),M n,false⟩:XS)=⟨au [3] (ae b) Z ((3,.int .i64 ((n:Int)-1))::Z),M n,decide (n<n)⟩:=by simp
  rw[u];refine bZ (α:=Nat) (fun k=>⟨au [3] (ae b) Z ((3,.int .i64 ((k:Int)-1))::Z),M k,decide (k<n)⟩) id (fun k=>k<=n) (.exit 0) (M 0) true (fun _=>True) (by simp) ?_ (n+1) n (Es _) (by simp);intro k hk;clear V u;subst U;cases k with
  |zero=>
   right;simp[hn]
  |succ k=>
   left;have X:k<n:=by omega
   have e1:(((k+1:Nat):Int)-1)=(k:Int):=by omega
   have w1:IntKind.i64.wrap ((k:Int)-1)=(k:Int)-1:=af;have l1:¬(M k).length<=m0:=by have:=(C' k X).2;omega
   have Q:=hs (k+1) (by omega);have r1:=hr (k+1) (by omega);have o:=S k X;have N:=W k X;obtain⟨x,hx,K⟩:=dp (l:=A) (i:=k) (by omega);have hg:A.getD k 0=x:=by simp[List.getD,hx]
   rw[hg] at o;rw[e1];refine⟨k,?_⟩;have aeC :(k:Int)<(n:Int):=by omega
   simp[h0,R,w1,l1,J,Q,r1,K,hA,X,o,-List.all_eq_false];refine⟨fun h=>?_,by omega⟩;exfalso;have:((List.take m0 (M k)).all fun s=>(afz.refs m0 s).isEmpty)=true:=List.all_eq_true.2 fun s hs=>by
    have R:=h s hs;have D:afz.refs m0 s=[]:=by cases s<;>exact R
    rw[D];rfl
   rw[N] at this;cases this
 obtain⟨F,hF⟩:=loop;simp[ah,aw,f279] at U;subst U;have w1:IntKind.i64.wrap ((n:Int)-1)=(n:Int)-1:=af;have Q:=hs n (by omega);have C:∃m,aO (aL prog) (fun _=>[3]) O (n+1) f279.ntmps (M n).length true (f279.body.getD .skip) ⟨dQ 0 [.yield H,.ptr I 0],M n,false⟩=some (.normal,⟨m,M 0,true⟩):=by simp[f279,Q,w1,J,hF]
 obtain⟨m,C⟩:=C;have B:ad (aL prog) (fun _=>[3]) (bq prog) O (n+1) 279 [.yield H,.ptr I 0] (M n)=some ⟨.tuple [],some (((M 0).take m0).map (afz.ren (rho m0 ks))),agp m0 ks (M 0)⟩:=by have:=TW (T:=aL prog) (G:=bq prog) (v:=.tuple []) hG rfl (by simp[f279]) (.inl rfl) C rfl (ks:=ks) (by rw[J];simpa [AV.refs,AV.afN] using Y) (by rw[J];exact aeK);rw[J] at this;simpa [AV.ren,AV.afR] using this
 have D:=(aB ak (aI _) hO (aQ _) B).1;simpa [afw.mem] using D
end Go.Proofs
