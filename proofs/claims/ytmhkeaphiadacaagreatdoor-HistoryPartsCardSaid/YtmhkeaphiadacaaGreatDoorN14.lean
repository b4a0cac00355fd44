/- See N58. -/
import Derived.Test.YtmhkeaphiadacaaGreatDoorN05
import Derived.Test.YtmhkeaphiadacaaGreatDoorN13
import Derived.Test.YtmhkeaphiadacaaGreatDoorN06
import Derived.Test.YtmhkeaphiadacaaGreatDoorProg
import Derived.KernelRfl
import Derived.Lib.IndexLaws
set_option linter.all false
namespace Go.Proofs
open Go.Eng
theorem Rh:az Tryz.prog 2=some ⟨.int .i64,1,8,.int .i64 0,true⟩:=by kernel_rfl
theorem B6:az Tryz.prog 3=some ⟨.int .i64,1,8,.int .i64 0,true⟩:=by kernel_rfl
theorem Qf:az Tryz.prog 4=some ⟨.bool,1,1,.bool false,true⟩:=by kernel_rfl
theorem Qg:az Tryz.prog 5=some ⟨.int .u8,1,1,.int .u8 0,true⟩:=by kernel_rfl
theorem Ri:az Tryz.prog 6=some ⟨.int .u8,1,1,.int .u8 0,true⟩:=by kernel_rfl
theorem Qh:az Tryz.prog 9=some ⟨.string,1,16,.string ⟨#[]⟩,true⟩:=by kernel_rfl
theorem OA:az Tryz.prog 22=some ⟨.int .i8,1,1,.int .i8 0,true⟩:=by kernel_rfl
theorem OD:az Tryz.prog 26=some ⟨.slice 32,1,24,.slice none 0 0,true⟩:=by kernel_rfl
theorem OI:az Tryz.prog 35=some ⟨.slice 121,1,24,.slice none 0 0,true⟩:=by kernel_rfl
theorem OJ:az Tryz.prog 36=some ⟨.slice 124,1,24,.slice none 0 0,true⟩:=by kernel_rfl
theorem OL:az Tryz.prog 39=some ⟨.slice 65,1,24,.slice none 0 0,true⟩:=by kernel_rfl
theorem ON:az Tryz.prog 43=some ⟨.slice 49,1,24,.slice none 0 0,true⟩:=by kernel_rfl
theorem OO:az Tryz.prog 44=some ⟨.slice 49,1,24,.slice none 0 0,true⟩:=by kernel_rfl
theorem OP:az Tryz.prog 45=some ⟨.slice 9,1,24,.slice none 0 0,true⟩:=by kernel_rfl
theorem OQ:az Tryz.prog 46=some ⟨.slice 44,1,24,.slice none 0 0,true⟩:=by kernel_rfl
theorem OS:az Tryz.prog 49=some ⟨.string,1,16,.string ⟨#[]⟩,true⟩:=by kernel_rfl
theorem OW:az Tryz.prog 56=some ⟨.slice 110,1,24,.slice none 0 0,true⟩:=by kernel_rfl
theorem O1:az Tryz.prog 67=some ⟨.int .i64,1,8,.int .i64 0,true⟩:=by kernel_rfl
theorem O2:az Tryz.prog 84=some ⟨.slice 3,1,24,.slice none 0 0,true⟩:=by kernel_rfl
theorem MO:az Tryz.prog 111=some ⟨.slice 61,1,24,.slice none 0 0,true⟩:=by kernel_rfl
theorem MQ:az Tryz.prog 139=some ⟨.slice 143,1,24,.slice none 0 0,true⟩:=by kernel_rfl
theorem MR:az Tryz.prog 147=some ⟨.slice 51,1,24,.slice none 0 0,true⟩:=by kernel_rfl
theorem MS:az Tryz.prog 149=some ⟨.string,1,16,.string ⟨#[]⟩,true⟩:=by kernel_rfl
theorem MT:az Tryz.prog 156=some ⟨.slice 39,1,24,.slice none 0 0,true⟩:=by kernel_rfl
theorem MU:az Tryz.prog 158=some ⟨.map 121 4,1,8,.map none,true⟩:=by kernel_rfl
theorem MV:az Tryz.prog 171=some ⟨.pointer 65,1,8,.pointer none,true⟩:=by kernel_rfl
theorem Gr:az Tryz.prog 199=some ⟨.map 143 3,1,8,.map none,true⟩:=by kernel_rfl
theorem Gs:az Tryz.prog 202=some ⟨.map 3 4,1,8,.map none,true⟩:=by kernel_rfl
theorem MW:az Tryz.prog 242=some ⟨.map 3 3,1,8,.map none,true⟩:=by kernel_rfl
theorem MX:az Tryz.prog 279=some ⟨.slice 298,1,24,.slice none 0 0,true⟩:=by kernel_rfl
theorem MZ:az Tryz.prog 298=some ⟨.int .u64,1,8,.int .u64 0,true⟩:=by kernel_rfl
attribute [simp] B6 Qf Qg Qh OA OD OI OJ OL ON OO
attribute [simp] OP OQ OS OW O1 O2 MO MQ MR MS MT MU MV Gr Gs MW MX
attribute [simp] MZ
noncomputable def pm(f:FuncId) (args:List AV):Option AV:=
 match f,args with
 |246,[.str a,.str b]=>some (.int .i64 (Lib.compareBytes a b))
 |192,[.str s,.int .u8 c]=>if 0≤c then some (.int .i64 (Lib.indexByte s c.toNat.toUInt8)) else none
 |254,[.str s,.str [c]]=>some (.int .i64 (Lib.indexByte s c))
 |_,_=>none
theorem Dh:OracleOk Tryz.prog (ao pm):=bN fun f args v h mem=>by
 unfold pm at h
 split at h
 ·cases h;exact jf _ _ mem
 ·split at h
  ·rename_i c hc
   cases h
   have e:c=((c.toNat:Nat):Int):=by omega
   have:=nY ‹List UInt8› c.toNat mem
   rw[←e] at this
   exact this
  ·cases h
 ·cases h;exact zB _ _ mem
 ·cases h
theorem aw{lv:Code→List Nat}{O:Oracle}(hO:OracleOk Tryz.prog O) {K:Nat}{f:FuncId}{args:List AV}{v:AV}(ha:AV.closeds args=true) (hv:v.closed=true)
  (h:ab (az Tryz.prog) lv (aI Tryz.prog) O K f args []=some ⟨v,none,[]⟩) (mem:Mem):ACallsTo Tryz.prog f args mem v mem:=
 ACallsTo.of_run aa (ai _) hO (aj _) ha hv h mem
theorem Fx:aI Tryz.prog 257=some Tryz.f257:=by kernel_rfl
theorem vt(s p:List UInt8) (mem:Mem):ACallsTo Tryz.prog 257 [.str s,.str p] mem (.bool (Lib.hasPrefix s p)) mem:=by
 refine aw (af _) (lv:=fun _=>[]) (K:=1) rfl rfl ?_ mem
 rw[←Lib.hasPrefix_of_take]
 by_cases h:p.length≤s.length
 ·simp[ab,Fx,Tryz.f257,h]
 ·simp[ab,Fx,Tryz.f257,h]
theorem Fw:aI Tryz.prog 222=some Tryz.f222:=by kernel_rfl
theorem tG{s:List UInt8}{c:UInt8}{i:Nat}(h:Lib.indexByte s c=i):i<s.length:=by
 have:=(Lib.indexByte_some h).1
 exact(List.getElem?_eq_some_iff.1 this).1
theorem Kq(s:List UInt8) (c:UInt8) (mem:Mem) (hl:s.length≤1000000000):ACallsTo Tryz.prog 222 [.str s,.str [c]] mem (if 0≤Lib.indexByte s c then .tuple [.str (s.take (Lib.indexByte s c).toNat),.str (s.drop ((Lib.indexByte s c).toNat+1)),.bool true] else .tuple [.str s,.str [],.bool false]) mem:=by
 refine aw Dh (lv:=fun _=>[]) (K:=1) rfl (by split<;>rfl) ?_ mem
 by_cases h:0≤Lib.indexByte s c
 ·obtain⟨i,hi⟩:∃i:Nat,Lib.indexByte s c=i:=⟨_,(Int.toNat_of_nonneg h).symm⟩
  have hlt:=tG hi
  have h1:(i:Int)≤s.length:=by omega
  have h2:IntKind.i64.wrap ((i:Int)+1)=(i:Int)+1:=al (by omega) (by omega)
  have h3:(i:Int)+1≤s.length:=by omega
  have h4:((i:Int)+1).toNat=i+1:=by omega
  have h5:(0:Int)≤(i:Int)+1:=by omega
  simp[ab,Fw,Tryz.f222,hi,ao,pm,h1,h2,h3,h4,h5]
  rw[List.take_of_length_le (by simp)]
 ·simp[ab,Fw,Tryz.f222,h,ao,pm]
noncomputable def dy(f:FuncId) (args:List AV):Option AV:=
 match f,args with
 |246,[.str a,.str b]=>some (.int .i64 (Lib.compareBytes a b))
 |192,[.str s,.int .u8 c]=>if 0≤c then some (.int .i64 (Lib.indexByte s c.toNat.toUInt8)) else none
 |257,[.str s,.str p]=>some (.bool (Lib.hasPrefix s p))
 |222,[.str s,.str [c]]=>if s.length≤1000000000 then some (if 0≤Lib.indexByte s c then .tuple [.str (s.take (Lib.indexByte s c).toNat),.str (s.drop ((Lib.indexByte s c).toNat+1)),.bool true] else .tuple [.str s,.str [],.bool false]) else none
 |_,_=>none
theorem fu:OracleOk Tryz.prog (ao dy):=bN fun f args v h mem=>by
 unfold dy at h
 split at h
 ·cases h;exact jf _ _ mem
 ·split at h
  ·rename_i c hc
   cases h
   have e:c=((c.toNat:Nat):Int):=by omega
   have:=nY ‹List UInt8› c.toNat mem
   rw[←e] at this
   exact this
  ·cases h
 ·cases h;exact vt _ _ mem
 ·split at h
  ·rename_i hl;cases h;exact Kq _ _ mem hl
  ·cases h
 ·cases h
theorem xe(s p:List UInt8) (mem:Mem):ACallsTo Tryz.prog 225 [.str s,.str p] mem (.bool (Lib.hasPrefix s p)) mem:=by
 have hG:aI Tryz.prog 225=some Tryz.f225:=by kernel_rfl
 refine aw fu (lv:=fun _=>[]) (K:=1) rfl rfl ?_ mem
 simp[ab,hG,Tryz.f225,ao,dy]
theorem Bl(s p:List UInt8) (mem:Mem):ACallsTo Tryz.prog 215 [.str s,.str p] mem (.int .i64 (Lib.compareBytes s p)) mem:=by
 have hG:aI Tryz.prog 215=some Tryz.f215:=by kernel_rfl
 refine aw fu (lv:=fun _=>[]) (K:=1) rfl rfl ?_ mem
 simp[ab,hG,Tryz.f215,ao,dy]
theorem vu(s:List UInt8) (c:Int) (hc:0≤c) (mem:Mem):ACallsTo Tryz.prog 128 [.str s,.int .u8 c] mem (.int .i64 (Lib.indexByte s c.toNat.toUInt8)) mem:=by
 have hG:aI Tryz.prog 128=some Tryz.f128:=by kernel_rfl
 refine aw fu (lv:=fun _=>[]) (K:=1) rfl rfl ?_ mem
 simp[ab,hG,Tryz.f128,ao,dy,hc]
theorem Mj(s:List UInt8) (c:UInt8) (mem:Mem) (hl:s.length≤1000000000):ACallsTo Tryz.prog 188 [.str s,.str [c]] mem (if 0≤Lib.indexByte s c then .tuple [.str (s.take (Lib.indexByte s c).toNat),.str (s.drop ((Lib.indexByte s c).toNat+1)),.bool true] else .tuple [.str s,.str [],.bool false]) mem:=by
 have hG:aI Tryz.prog 188=some Tryz.f188:=by kernel_rfl
 refine aw fu (lv:=fun _=>[]) (K:=1) rfl (by split<;>rfl) ?_ mem
 by_cases h:0≤Lib.indexByte s c
 ·simp[ab,hG,Tryz.f188,ao,dy,hl,h]
 ·simp[ab,hG,Tryz.f188,ao,dy,hl,h]
theorem vp(s p:List UInt8) (mem:Mem):ACallsTo Tryz.prog 255 [.str s,.str p] mem (.tuple [.str (Lib.trimPrefix s p),.bool (Lib.hasPrefix s p)]) mem:=by
 have hG:aI Tryz.prog 255=some Tryz.f255:=by kernel_rfl
 refine aw fu (lv:=fun _=>[]) (K:=1) rfl rfl ?_ mem
 cases h:Lib.hasPrefix s p with
 |false=>simp[ab,hG,Tryz.f255,ao,dy,h,Lib.trimPrefix]
 |true=>
  have hle:p.length≤s.length:=(List.isPrefixOf_iff_prefix.1 h).length_le
  simp[ab,hG,Tryz.f255,ao,dy,h,Lib.trimPrefix,hle]
  rw[List.take_of_length_le (by simp)]
theorem tt(s p:List UInt8) (mem:Mem):ACallsTo Tryz.prog 245 [.str s,.str p] mem (.str (Lib.trimPrefix s p)) mem:=by
 have hG:aI Tryz.prog 245=some Tryz.f245:=by kernel_rfl
 refine aw fu (lv:=fun _=>[]) (K:=1) rfl rfl ?_ mem
 cases h:Lib.hasPrefix s p with
 |false=>simp[ab,hG,Tryz.f245,ao,dy,h,Lib.trimPrefix]
 |true=>
  have hle:p.length≤s.length:=(List.isPrefixOf_iff_prefix.1 h).length_le
  simp[ab,hG,Tryz.f245,ao,dy,h,Lib.trimPrefix,hle]
  rw[List.take_of_length_le (by simp)]
end Go.Proofs
