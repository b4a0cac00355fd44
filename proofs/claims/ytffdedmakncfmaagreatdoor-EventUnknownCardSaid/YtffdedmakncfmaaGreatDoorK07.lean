/- See K51. -/
import Derived.Test.YtffdedmakncfmaaGreatDoorK06
import Derived.Test.YtffdedmakncfmaaGreatDoorProg
import Derived.KernelRfl
import Derived.Lib.Slices
import Derived.Lib.Walk
import Derived.Shelf.Strconv.Itoa3
import Derived.Shelf.Strconv.Atoi
import Derived.Ground.NamesProg
set_option linter.all false
namespace Go.Proofs
open Go.Eng
theorem ae:Tryz.prog.follows .mixedOrders=true:=by kernel_rfl
set_option maxHeartbeats 1000000 in
set_option maxRecDepth 100000 in
theorem jD(a b:ByteArray) (w:World):
  Calls Tryz.prog 219 #[.string a,.string b] w fun e w' =>e=.returned (.int .i64 (Lib.compareBytes a.data.toList b.data.toList))∧w' =w:=by
 go_enter Tryz.func219,Tryz.ntmps219
 go_wp2
 rw[run_callFunc_extern Tryz.func252 (by kernel_rfl) (by kernel_rfl) (by kernel_rfl) (e:=Extern.BytealgCompare.compare) (by kernel_rfl),Lib.run_compareString]
 simp only[Result.andThen]
 rw[Oper.upon_value]
 go_wp2
 go_ret
 exact⟨rfl,rfl⟩
set_option maxHeartbeats 1000000 in
set_option maxRecDepth 100000 in
theorem fz(s:ByteArray) (c:Int) (w:World):
  Calls Tryz.prog 189 #[.string s,.int .u8 c] w fun e w' =>e=.returned (.int .i64 (Lib.indexByte s.data.toList c.toNat.toUInt8))∧w' =w:=by
 go_enter Tryz.func189,Tryz.ntmps189
 go_wp2
 rw[run_callFunc_extern Tryz.func232 (by kernel_rfl) (by kernel_rfl) (by kernel_rfl) (e:=Extern.BytealgIndexByte.indexByte) (by kernel_rfl),Lib.run_indexByteString]
 simp only[Result.andThen]
 rw[Oper.upon_value]
 go_wp2
 go_ret
 exact⟨rfl,rfl⟩
set_option maxHeartbeats 2000000 in
set_option maxRecDepth 100000 in
theorem jE(s:ByteArray) (c:UInt8) (w:World):
  Calls Tryz.prog 216 #[.string s,.string ⟨#[c]⟩] w fun e w' =>e=.returned (.int .i64 (Lib.indexByte s.data.toList c))∧w' =w:=by
 go_enter Tryz.func216,Tryz.ntmps216
 go_wp2_with (go_at_call 189;refine(fz _ _ _).mono ?_;rintro e w' ⟨rfl,rfl⟩)
 ·have h:([c]==s.toList)=true:=by assumption
  go_ret
  refine⟨?_,rfl⟩
  have e:s.data.toList=[c]:=by rw[←Lib.toList_data];exact(beq_iff_eq.1 h).symm
  rw[e]
  simp[Lib.indexByte]
 ·go_ret
  exact⟨rfl,rfl⟩
theorem fo(f:FuncId) {fn:Func}(h:Tryz.prog.funcs[f]? =some fn) (hb:fn.body.isSome=true) (hn:(fn.name == "runtime.NumGoroutine")=false):OM Tryz.prog f:=⟨fn,h,hb,hn⟩
theorem jd(a b:List UInt8) (mem:Mem):ACallsTo Tryz.prog 219 [.str a,.str b] mem (.int .i64 (Lib.compareBytes a b)) mem:=
 ACallsTo.of_calls (fo _ Tryz.func219 (by kernel_rfl) (by kernel_rfl)) (Vs:=[.string ⟨a.toArray⟩,.string ⟨b.toArray⟩]) (fun μ n Us h=>by simpa [VRels,VRel] using h) (V:=.int .i64 (Lib.compareBytes a b)) (fun μ n=>by simp[VRel])
  (fun base w _=>(jD ⟨a.toArray⟩ ⟨b.toArray⟩ w).mono fun e w' ⟨h1,h2⟩=>⟨h1,h2▸Gentle.refl w⟩) mem
theorem na(s:List UInt8) (c:Nat) (mem:Mem):ACallsTo Tryz.prog 189 [.str s,.int .u8 c] mem (.int .i64 (Lib.indexByte s c.toUInt8)) mem:=
 ACallsTo.of_calls (fo _ Tryz.func189 (by kernel_rfl) (by kernel_rfl)) (Vs:=[.string ⟨s.toArray⟩,.int .u8 c]) (fun μ n Us h=>by simpa [VRels,VRel] using h) (V:=.int .i64 (Lib.indexByte s c.toUInt8)) (fun μ n=>by simp[VRel])
  (fun base w _=>(fz ⟨s.toArray⟩ c w).mono fun e w' ⟨h1,h2⟩=>⟨by simpa using h1,h2▸Gentle.refl w⟩) mem
theorem Ae(s:List UInt8) (c:UInt8) (mem:Mem):ACallsTo Tryz.prog 216 [.str s,.str [c]] mem (.int .i64 (Lib.indexByte s c)) mem:=
 ACallsTo.of_calls (fo _ Tryz.func216 (by kernel_rfl) (by kernel_rfl)) (Vs:=[.string ⟨s.toArray⟩,.string ⟨#[c]⟩]) (fun μ n Us h=>by simpa [VRels,VRel] using h) (V:=.int .i64 (Lib.indexByte s c)) (fun μ n=>by simp[VRel])
  (fun base w _=>(jE ⟨s.toArray⟩ c w).mono fun e w' ⟨h1,h2⟩=>⟨h1,h2▸Gentle.refl w⟩) mem
theorem Co:aO Tryz.prog 3=some ⟨.int .i64,1,8,.int .i64 0,true⟩:=by kernel_rfl
theorem QK:aO Tryz.prog 4=some ⟨.bool,1,1,.bool false,true⟩:=by kernel_rfl
theorem QL:aO Tryz.prog 5=some ⟨.int .u8,1,1,.int .u8 0,true⟩:=by kernel_rfl
theorem QM:aO Tryz.prog 9=some ⟨.string,1,16,.string ⟨#[]⟩,true⟩:=by kernel_rfl
theorem O1:aO Tryz.prog 22=some ⟨.int .i8,1,1,.int .i8 0,true⟩:=by kernel_rfl
theorem Pa:aO Tryz.prog 41=some ⟨.slice 100,1,24,.slice none 0 0,true⟩:=by kernel_rfl
theorem Pb:aO Tryz.prog 42=some ⟨.slice 151,1,24,.slice none 0 0,true⟩:=by kernel_rfl
theorem Pd:aO Tryz.prog 46=some ⟨.slice 52,1,24,.slice none 0 0,true⟩:=by kernel_rfl
theorem Pe:aO Tryz.prog 47=some ⟨.slice 52,1,24,.slice none 0 0,true⟩:=by kernel_rfl
theorem Pf:aO Tryz.prog 48=some ⟨.slice 9,1,24,.slice none 0 0,true⟩:=by kernel_rfl
theorem Pg:aO Tryz.prog 49=some ⟨.slice 47,1,24,.slice none 0 0,true⟩:=by kernel_rfl
theorem Pj:aO Tryz.prog 52=some ⟨.string,1,16,.string ⟨#[]⟩,true⟩:=by kernel_rfl
theorem Pn:aO Tryz.prog 59=some ⟨.slice 91,1,24,.slice none 0 0,true⟩:=by kernel_rfl
theorem Pw:aO Tryz.prog 96=some ⟨.slice 102,1,24,.slice none 0 0,true⟩:=by kernel_rfl
theorem M5:aO Tryz.prog 155=some ⟨.string,1,16,.string ⟨#[]⟩,true⟩:=by kernel_rfl
theorem M6:aO Tryz.prog 196=some ⟨.slice 3,1,24,.slice none 0 0,true⟩:=by kernel_rfl
theorem M7:aO Tryz.prog 206=some ⟨.slice 246,1,24,.slice none 0 0,true⟩:=by kernel_rfl
theorem M9:aO Tryz.prog 214=some ⟨.slice 54,1,24,.slice none 0 0,true⟩:=by kernel_rfl
theorem Na:aO Tryz.prog 236=some ⟨.map 100 4,1,8,.map none,true⟩:=by kernel_rfl
theorem Nb:aO Tryz.prog 246=some ⟨.int .u64,1,8,.int .u64 0,true⟩:=by kernel_rfl
theorem Nc:aO Tryz.prog 250=some ⟨.pointer 253,1,8,.pointer none,true⟩:=by kernel_rfl
theorem Nd:aO Tryz.prog 251=some ⟨.slice 5,1,24,.slice none 0 0,true⟩:=by kernel_rfl
theorem Gh:aO Tryz.prog 276=some ⟨.map 102 3,1,8,.map none,true⟩:=by kernel_rfl
theorem Gi:aO Tryz.prog 279=some ⟨.map 3 4,1,8,.map none,true⟩:=by kernel_rfl
theorem Ng:aO Tryz.prog 289=some ⟨.pointer 5,1,8,.pointer none,true⟩:=by kernel_rfl
theorem Nh:aO Tryz.prog 313=some ⟨.map 3 3,1,8,.map none,true⟩:=by kernel_rfl
attribute [simp] Co QK QL QM O1 Pa Pb Pd Pe Pf
attribute [simp] Pg Pj Pn Pw M5 M6 M7 M9 Na Nb Nc Nd Gh Gi Ng
attribute [simp] Nh
noncomputable def pg(f:FuncId) (args:List AV):Option AV:=
 match f,args with
 |219,[.str a,.str b]=>some (.int .i64 (Lib.compareBytes a b))
 |189,[.str s,.int .u8 c]=>if 0≤c then some (.int .i64 (Lib.indexByte s c.toNat.toUInt8)) else none
 |216,[.str s,.str [c]]=>some (.int .i64 (Lib.indexByte s c))
 |_,_=>none
theorem DW:OracleOk Tryz.prog (ai pg):=bM fun f args v h mem=>by
 unfold pg at h
 split at h
 ·cases h;exact jd _ _ mem
 ·split at h
  ·rename_i c hc
   cases h
   have e:c=((c.toNat:Nat):Int):=by omega
   have:=na ‹List UInt8› c.toNat mem
   rw[←e] at this
   exact this
  ·cases h
 ·cases h;exact Ae _ _ mem
 ·cases h
theorem aq{lv:Code→List Nat}{O:Oracle}(hO:OracleOk Tryz.prog O) {K:Nat}{f:FuncId}{args:List AV}{v:AV}(ha:AV.closeds args=true) (hv:v.closed=true)
  (h:aa (aO Tryz.prog) lv (aN Tryz.prog) O K f args []=some ⟨v,none,[]⟩) (mem:Mem):ACallsTo Tryz.prog f args mem v mem:=
 ACallsTo.of_run ae (aw _) hO (ax _) ha hv h mem
theorem F4:aN Tryz.prog 242=some Tryz.f242:=by kernel_rfl
theorem wi(s p:List UInt8) (mem:Mem):ACallsTo Tryz.prog 242 [.str s,.str p] mem (.bool (Lib.hasPrefix s p)) mem:=by
 refine aq (ak _) (lv:=fun _=>[]) (K:=1) rfl rfl ?_ mem
 rw[←Lib.hasPrefix_of_take]
 by_cases h:p.length≤s.length
 ·simp[aa,F4,Tryz.f242,h]
 ·simp[aa,F4,Tryz.f242,h]
theorem F1:aN Tryz.prog 153=some Tryz.f153:=by kernel_rfl
theorem uh{s:List UInt8}{c:UInt8}{i:Nat}(h:Lib.indexByte s c=i):i<s.length:=by
 have:=(Lib.indexByte_some h).1
 exact(List.getElem?_eq_some_iff.1 this).1
theorem Kz(s:List UInt8) (c:UInt8) (mem:Mem) (hl:s.length≤1000000000):ACallsTo Tryz.prog 153 [.str s,.str [c]] mem (if 0≤Lib.indexByte s c then .tuple [.str (s.take (Lib.indexByte s c).toNat),.str (s.drop ((Lib.indexByte s c).toNat+1)),.bool true] else .tuple [.str s,.str [],.bool false]) mem:=by
 refine aq DW (lv:=fun _=>[]) (K:=1) rfl (by split<;>rfl) ?_ mem
 by_cases h:0≤Lib.indexByte s c
 ·obtain⟨i,hi⟩:∃i:Nat,Lib.indexByte s c=i:=⟨_,(Int.toNat_of_nonneg h).symm⟩
  have hlt:=uh hi
  have h1:(i:Int)≤s.length:=by omega
  have h2:IntKind.i64.wrap ((i:Int)+1)=(i:Int)+1:=ag (by omega) (by omega)
  have h3:(i:Int)+1≤s.length:=by omega
  have h4:((i:Int)+1).toNat=i+1:=by omega
  have h5:(0:Int)≤(i:Int)+1:=by omega
  simp[aa,F1,Tryz.f153,hi,ai,pg,h1,h2,h3,h4,h5]
  rw[List.take_of_length_le (by simp)]
 ·simp[aa,F1,Tryz.f153,h,ai,pg]
noncomputable def dz(f:FuncId) (args:List AV):Option AV:=
 match f,args with
 |219,[.str a,.str b]=>some (.int .i64 (Lib.compareBytes a b))
 |189,[.str s,.int .u8 c]=>if 0≤c then some (.int .i64 (Lib.indexByte s c.toNat.toUInt8)) else none
 |242,[.str s,.str p]=>some (.bool (Lib.hasPrefix s p))
 |153,[.str s,.str [c]]=>if s.length≤1000000000 then some (if 0≤Lib.indexByte s c then .tuple [.str (s.take (Lib.indexByte s c).toNat),.str (s.drop ((Lib.indexByte s c).toNat+1)),.bool true] else .tuple [.str s,.str [],.bool false]) else none
 |_,_=>none
theorem fm:OracleOk Tryz.prog (ai dz):=bM fun f args v h mem=>by
 unfold dz at h
 split at h
 ·cases h;exact jd _ _ mem
 ·split at h
  ·rename_i c hc
   cases h
   have e:c=((c.toNat:Nat):Int):=by omega
   have:=na ‹List UInt8› c.toNat mem
   rw[←e] at this
   exact this
  ·cases h
 ·cases h;exact wi _ _ mem
 ·split at h
  ·rename_i hl;cases h;exact Kz _ _ mem hl
  ·cases h
 ·cases h
theorem xQ(s p:List UInt8) (mem:Mem):ACallsTo Tryz.prog 204 [.str s,.str p] mem (.bool (Lib.hasPrefix s p)) mem:=by
 have hG:aN Tryz.prog 204=some Tryz.f204:=by kernel_rfl
 refine aq fm (lv:=fun _=>[]) (K:=1) rfl rfl ?_ mem
 simp[aa,hG,Tryz.f204,ai,dz]
theorem BC(s p:List UInt8) (mem:Mem):ACallsTo Tryz.prog 156 [.str s,.str p] mem (.int .i64 (Lib.compareBytes s p)) mem:=by
 have hG:aN Tryz.prog 156=some Tryz.f156:=by kernel_rfl
 refine aq fm (lv:=fun _=>[]) (K:=1) rfl rfl ?_ mem
 simp[aa,hG,Tryz.f156,ai,dz]
theorem wj(s:List UInt8) (c:Int) (hc:0≤c) (mem:Mem):ACallsTo Tryz.prog 125 [.str s,.int .u8 c] mem (.int .i64 (Lib.indexByte s c.toNat.toUInt8)) mem:=by
 have hG:aN Tryz.prog 125=some Tryz.f125:=by kernel_rfl
 refine aq fm (lv:=fun _=>[]) (K:=1) rfl rfl ?_ mem
 simp[aa,hG,Tryz.f125,ai,dz,hc]
theorem MP(s:List UInt8) (c:UInt8) (mem:Mem) (hl:s.length≤1000000000):ACallsTo Tryz.prog 106 [.str s,.str [c]] mem (if 0≤Lib.indexByte s c then .tuple [.str (s.take (Lib.indexByte s c).toNat),.str (s.drop ((Lib.indexByte s c).toNat+1)),.bool true] else .tuple [.str s,.str [],.bool false]) mem:=by
 have hG:aN Tryz.prog 106=some Tryz.f106:=by kernel_rfl
 refine aq fm (lv:=fun _=>[]) (K:=1) rfl (by split<;>rfl) ?_ mem
 by_cases h:0≤Lib.indexByte s c
 ·simp[aa,hG,Tryz.f106,ai,dz,hl,h]
 ·simp[aa,hG,Tryz.f106,ai,dz,hl,h]
theorem we(s p:List UInt8) (mem:Mem):ACallsTo Tryz.prog 217 [.str s,.str p] mem (.tuple [.str (Lib.trimPrefix s p),.bool (Lib.hasPrefix s p)]) mem:=by
 have hG:aN Tryz.prog 217=some Tryz.f217:=by kernel_rfl
 refine aq fm (lv:=fun _=>[]) (K:=1) rfl rfl ?_ mem
 cases h:Lib.hasPrefix s p with
 |false=>simp[aa,hG,Tryz.f217,ai,dz,h,Lib.trimPrefix]
 |true=>
  have hle:p.length≤s.length:=(List.isPrefixOf_iff_prefix.1 h).length_le
  simp[aa,hG,Tryz.f217,ai,dz,h,Lib.trimPrefix,hle]
  rw[List.take_of_length_le (by simp)]
theorem tV(s p:List UInt8) (mem:Mem):ACallsTo Tryz.prog 218 [.str s,.str p] mem (.str (Lib.trimPrefix s p)) mem:=by
 have hG:aN Tryz.prog 218=some Tryz.f218:=by kernel_rfl
 refine aq fm (lv:=fun _=>[]) (K:=1) rfl rfl ?_ mem
 cases h:Lib.hasPrefix s p with
 |false=>simp[aa,hG,Tryz.f218,ai,dz,h,Lib.trimPrefix]
 |true=>
  have hle:p.length≤s.length:=(List.isPrefixOf_iff_prefix.1 h).length_le
  simp[aa,hG,Tryz.f218,ai,dz,h,Lib.trimPrefix,hle]
  rw[List.take_of_length_le (by simp)]
end Go.Proofs
namespace Go.Proofs
open Go.Eng Go.Shelf
def uk:Go.Shelf.Ren:=⟨fun | 171=>122 | 243=>188 | 246=>231 | 283=>263 | 284=>264 | 285=>265 | 286=>266 | 129=>281 | 317=>280 | 318=>282 | 319=>283 | 320=>284 | 337=>288 | 338=>289 | n=>n,fun | 3=>3 | 9=>9 | 2=>2 | 4=>4 | 171=>305 | 0=>0 | 53=>246 | 37=>251 | 5=>5 | 173=>308 | 212=>330 | 51=>321 | 20=>20 | 213=>331 | 46=>293 | 232=>342 | 233=>343 | n=>n,fun | 17=>3 | 18=>4 | 19=>5 | n=>n⟩
theorem Ch:Go.Proofs.LaysM.n171 Tryz.prog uk:={
 mixed:=by kernel_rfl
 f129:=Tryz.func281.trans (congrArg some (by kernel_rfl))
 f171:=Tryz.func122.trans (congrArg some (by kernel_rfl))
 f243:=Tryz.func188.trans (congrArg some (by kernel_rfl))
 f246:=Tryz.func231.trans (congrArg some (by kernel_rfl))
 f283:=Tryz.func263.trans (congrArg some (by kernel_rfl))
 f284:=Tryz.func264.trans (congrArg some (by kernel_rfl))
 f285:=Tryz.func265.trans (congrArg some (by kernel_rfl))
 f286:=Tryz.func266.trans (congrArg some (by kernel_rfl))
 f317:=Tryz.func280.trans (congrArg some (by kernel_rfl))
 f318:=Tryz.func282.trans (congrArg some (by kernel_rfl))
 f319:=Tryz.func283.trans (congrArg some (by kernel_rfl))
 f320:=Tryz.func284.trans (congrArg some (by kernel_rfl))
 f337:=Tryz.func288.trans (congrArg some (by kernel_rfl))
 f338:=Tryz.func289.trans (congrArg some (by kernel_rfl))
 t0:=Tryz.underlying0
 a0:=Tryz.isAgg0
 z0:=Tryz.sizeOf0
 v0:=Tryz.zeroValue0
 t2:=Tryz.underlying2
 a2:=Tryz.isAgg2
 z2:=Tryz.sizeOf2
 v2:=Tryz.zeroValue2
 t3:=Tryz.underlying3
 a3:=Tryz.isAgg3
 z3:=Tryz.sizeOf3
 v3:=Tryz.zeroValue3
 t4:=Tryz.underlying4
 a4:=Tryz.isAgg4
 z4:=Tryz.sizeOf4
 v4:=Tryz.zeroValue4
 t5:=Tryz.underlying5
 a5:=Tryz.isAgg5
 z5:=Tryz.sizeOf5
 v5:=Tryz.zeroValue5
 t9:=Tryz.underlying9
 a9:=Tryz.isAgg9
 z9:=Tryz.sizeOf9
 v9:=Tryz.zeroValue9
 t20:=Tryz.underlying20
 a20:=Tryz.isAgg20
 z20:=Tryz.sizeOf20
 v20:=Tryz.zeroValue20
 t37:=Tryz.underlying251
 a37:=Tryz.isAgg251
 z37:=Tryz.sizeOf251
 v37:=Tryz.zeroValue251
 t46:=Tryz.underlying293
 a46:=Tryz.isAgg293
 z46:=Tryz.sizeOf293
 v46:=Tryz.zeroValue293
 t51:=Tryz.underlying321
 a51:=Tryz.isAgg321
 z51:=Tryz.sizeOf321
 v51:=Tryz.zeroValue321
 t53:=Tryz.underlying246
 a53:=Tryz.isAgg246
 z53:=Tryz.sizeOf246
 v53:=Tryz.zeroValue246
 t171:=Tryz.underlying305
 a171:=Tryz.isAgg305
 z171:=Tryz.sizeOf305
 v171:=Tryz.zeroValue305
 t173:=Tryz.underlying308
 a173:=Tryz.isAgg308
 z173:=Tryz.sizeOf308
 v173:=Tryz.zeroValue308
 t212:=Tryz.underlying330
 a212:=Tryz.isAgg330
 z212:=Tryz.sizeOf330
 v212:=Tryz.zeroValue330
 t213:=Tryz.underlying331
 a213:=Tryz.isAgg331
 z213:=Tryz.sizeOf331
 t232:=Tryz.underlying342
 a232:=Tryz.isAgg342
 z232:=Tryz.sizeOf342
 v232:=Tryz.zeroValue342
 t233:=Tryz.underlying343
 a233:=Tryz.isAgg343
 z233:=Tryz.sizeOf343
 v233:=Tryz.zeroValue343
 g17:=by kernel_rfl
 g18:=by kernel_rfl
 g19:=by kernel_rfl
 i0:=by kernel_rfl
 i2:=by kernel_rfl
 i3:=by kernel_rfl
 i4:=by kernel_rfl
 i5:=by kernel_rfl
 i9:=by kernel_rfl
 i20:=by kernel_rfl
 i37:=by kernel_rfl
 i46:=by kernel_rfl
 i51:=by kernel_rfl
 i53:=by kernel_rfl
 i171:=by kernel_rfl
 i173:=by kernel_rfl
 i212:=by kernel_rfl
 i232:=by kernel_rfl
 i233:=by kernel_rfl
 m17:=by kernel_rfl
 m18:=by kernel_rfl
 m19:=by kernel_rfl }
def uj:Go.Shelf.Ren:=⟨fun | 172=>185 | 244=>229 | 245=>230 | 247=>258 | 279=>259 | 280=>260 | 281=>261 | 282=>262 | 287=>243 | 316=>278 | 171=>122 | 205=>279 | 321=>272 | 322=>273 | 243=>188 | 246=>231 | 283=>263 | 284=>264 | 285=>265 | 286=>266 | 129=>281 | 317=>280 | 318=>282 | 319=>283 | 320=>284 | 337=>288 | 338=>289 | n=>n,fun | 9=>9 | 3=>3 | 75=>229 | 76=>230 | 4=>4 | 5=>5 | 167=>299 | 37=>251 | 0=>0 | 85=>300 | 2=>2 | 168=>302 | 53=>246 | 175=>247 | 46=>293 | 210=>327 | 127=>289 | 145=>340 | 143=>338 | 21=>21 | 171=>305 | 173=>308 | 212=>330 | 51=>321 | 20=>20 | 213=>331 | 232=>342 | 233=>343 | 80=>259 | n=>n,fun | 15=>1 | 16=>2 | 17=>3 | 18=>4 | 19=>5 | n=>n⟩
theorem Cg:Go.Proofs.Lays.n172 Tryz.prog uj:={
 mixed:=by kernel_rfl
 f129:=Tryz.func281.trans (congrArg some (by kernel_rfl))
 f171:=Tryz.func122.trans (congrArg some (by kernel_rfl))
 f172:=Tryz.func185.trans (congrArg some (by kernel_rfl))
 f205:=Tryz.func279.trans (congrArg some (by kernel_rfl))
 f243:=Tryz.func188.trans (congrArg some (by kernel_rfl))
 f244:=Tryz.func229.trans (congrArg some (by kernel_rfl))
 f245:=Tryz.func230.trans (congrArg some (by kernel_rfl))
 f246:=Tryz.func231.trans (congrArg some (by kernel_rfl))
 f247:=Tryz.func258.trans (congrArg some (by kernel_rfl))
 f279:=Tryz.func259.trans (congrArg some (by kernel_rfl))
 f280:=Tryz.func260.trans (congrArg some (by kernel_rfl))
 f281:=Tryz.func261.trans (congrArg some (by kernel_rfl))
 f282:=Tryz.func262.trans (congrArg some (by kernel_rfl))
 f283:=Tryz.func263.trans (congrArg some (by kernel_rfl))
 f284:=Tryz.func264.trans (congrArg some (by kernel_rfl))
 f285:=Tryz.func265.trans (congrArg some (by kernel_rfl))
 f286:=Tryz.func266.trans (congrArg some (by kernel_rfl))
 f287:=Tryz.func243.trans (congrArg some (by kernel_rfl))
 f316:=Tryz.func278.trans (congrArg some (by kernel_rfl))
 f317:=Tryz.func280.trans (congrArg some (by kernel_rfl))
 f318:=Tryz.func282.trans (congrArg some (by kernel_rfl))
 f319:=Tryz.func283.trans (congrArg some (by kernel_rfl))
 f320:=Tryz.func284.trans (congrArg some (by kernel_rfl))
 f321:=Tryz.func272.trans (congrArg some (by kernel_rfl))
 f322:=Tryz.func273.trans (congrArg some (by kernel_rfl))
 f337:=Tryz.func288.trans (congrArg some (by kernel_rfl))
 f338:=Tryz.func289.trans (congrArg some (by kernel_rfl))
 t0:=Tryz.underlying0
 a0:=Tryz.isAgg0
 z0:=Tryz.sizeOf0
 v0:=Tryz.zeroValue0
 t2:=Tryz.underlying2
 a2:=Tryz.isAgg2
 z2:=Tryz.sizeOf2
 v2:=Tryz.zeroValue2
 t3:=Tryz.underlying3
 a3:=Tryz.isAgg3
 z3:=Tryz.sizeOf3
 v3:=Tryz.zeroValue3
 t4:=Tryz.underlying4
 a4:=Tryz.isAgg4
 z4:=Tryz.sizeOf4
 v4:=Tryz.zeroValue4
 t5:=Tryz.underlying5
 a5:=Tryz.isAgg5
 z5:=Tryz.sizeOf5
 v5:=Tryz.zeroValue5
 t9:=Tryz.underlying9
 a9:=Tryz.isAgg9
 z9:=Tryz.sizeOf9
 v9:=Tryz.zeroValue9
 t20:=Tryz.underlying20
 a20:=Tryz.isAgg20
 z20:=Tryz.sizeOf20
 v20:=Tryz.zeroValue20
 t21:=Tryz.underlying21
 a21:=Tryz.isAgg21
 z21:=Tryz.sizeOf21
 v21:=Tryz.zeroValue21
 t37:=Tryz.underlying251
 a37:=Tryz.isAgg251
 z37:=Tryz.sizeOf251
 v37:=Tryz.zeroValue251
 t46:=Tryz.underlying293
 a46:=Tryz.isAgg293
 z46:=Tryz.sizeOf293
 v46:=Tryz.zeroValue293
 t51:=Tryz.underlying321
 a51:=Tryz.isAgg321
 z51:=Tryz.sizeOf321
 v51:=Tryz.zeroValue321
 t53:=Tryz.underlying246
 a53:=Tryz.isAgg246
 z53:=Tryz.sizeOf246
 v53:=Tryz.zeroValue246
 t75:=Tryz.underlying229
 a75:=Tryz.isAgg229
 z75:=Tryz.sizeOf229
 v75:=Tryz.zeroValue229
 t76:=Tryz.underlying230
 a76:=Tryz.isAgg230
 z76:=Tryz.sizeOf230
 v76:=Tryz.zeroValue230
 t85:=Tryz.underlying300
 a85:=Tryz.isAgg300
 z85:=Tryz.sizeOf300
 v85:=Tryz.zeroValue300
 t127:=Tryz.underlying289
 a127:=Tryz.isAgg289
 z127:=Tryz.sizeOf289
 v127:=Tryz.zeroValue289
 t143:=Tryz.underlying338
 a143:=Tryz.isAgg338
 z143:=Tryz.sizeOf338
 v143:=Tryz.zeroValue338
 t145:=Tryz.underlying340
 a145:=Tryz.isAgg340
 z145:=Tryz.sizeOf340
 v145:=Tryz.zeroValue340
 t167:=Tryz.underlying299
 a167:=Tryz.isAgg299
 z167:=Tryz.sizeOf299
 v167:=Tryz.zeroValue299
 t168:=Tryz.underlying302
 a168:=Tryz.isAgg302
 z168:=Tryz.sizeOf302
 v168:=Tryz.zeroValue302
 t171:=Tryz.underlying305
 a171:=Tryz.isAgg305
 z171:=Tryz.sizeOf305
 v171:=Tryz.zeroValue305
 t173:=Tryz.underlying308
 a173:=Tryz.isAgg308
 z173:=Tryz.sizeOf308
 v173:=Tryz.zeroValue308
 t175:=Tryz.underlying247
 a175:=Tryz.isAgg247
 z175:=Tryz.sizeOf247
 v175:=Tryz.zeroValue247
 t210:=Tryz.underlying327
 a210:=Tryz.isAgg327
 z210:=Tryz.sizeOf327
 v210:=Tryz.zeroValue327
 t212:=Tryz.underlying330
 a212:=Tryz.isAgg330
 z212:=Tryz.sizeOf330
 v212:=Tryz.zeroValue330
 t213:=Tryz.underlying331
 a213:=Tryz.isAgg331
 z213:=Tryz.sizeOf331
 t232:=Tryz.underlying342
 a232:=Tryz.isAgg342
 z232:=Tryz.sizeOf342
 v232:=Tryz.zeroValue342
 t233:=Tryz.underlying343
 a233:=Tryz.isAgg343
 z233:=Tryz.sizeOf343
 v233:=Tryz.zeroValue343
 g15:=by kernel_rfl
 g16:=by kernel_rfl
 g17:=by kernel_rfl
 g18:=by kernel_rfl
 g19:=by kernel_rfl }
theorem kE(w:World) (e:TypeId) (s:ByteArray):Gentle w (Lib.bytesWorld w e s):=
 ⟨by rw[Lib.bytesWorld_size];omega,fun k hk=>Lib.bytesWorld_at_old w e s k hk,rfl,rfl,rfl,by first | exact Nat.le_refl _ | exact Nat.le_add_right _ _ | exact Nat.le_succ _⟩
theorem KJ(n:Int) (h0: -9223372036854775808≤n) (h1:n≤9223372036854775807) (mem:Mem):ACallsTo Tryz.prog 122 [.int .i64 n] mem (.str (bE n)) mem:=
 ACallsTo.of_calls (fo _ Tryz.func122 (by kernel_rfl) (by kernel_rfl)) (Vs:=[.int .i64 n]) (fun μ n Us h=>by simpa [VRels,VRel] using h) (V:=.string ⟨(bE n).toArray⟩) (fun μ n=>by simp[VRel])
  (fun base w hG=>(Any.strconv_Itoa Ch n h0 h1 w (hG.tabOf (by kernel_rfl))).mono fun e w' ⟨h1,k,os,h2⟩=>⟨by rw[h1,NT],h2▸Gentle.grow w k os⟩) mem
theorem Ky(s:List UInt8) (n:Int) (hl:s.length≤18) (h:Lib.atoi s=some n) (mem:Mem):ACallsTo Tryz.prog 185 [.str s] mem (.tuple [.int .i64 n,.nilIface]) mem:=
 ACallsTo.of_calls (fo _ Tryz.func185 (by kernel_rfl) (by kernel_rfl)) (Vs:=[.string ⟨s.toArray⟩]) (fun μ n Us h=>by simpa [VRels,VRel] using h) (V:=.tuple #[.int .i64 n,.nilIface]) (fun μ n=>by simp only[VRel,VRels];exact⟨_,rfl,_,_,rfl,rfl,_,_,rfl,rfl,rfl⟩)
  (fun base w hG=>(Any.strconv_Atoi Cg ⟨s.toArray⟩ n (by simpa [ByteArray.size] using hl) (by simpa using h) w).mono fun e w' ⟨h1,t,h2⟩=>⟨h1,by rw[h2];exact kE _ _ _⟩) mem
end Go.Proofs
namespace Go.Proofs
open Go.Eng
noncomputable def lf(f:FuncId) (args:List AV):Option AV:=
 match f,args with
 |217,[.str s,.str p]=>some (.tuple [.str (Lib.trimPrefix s p),.bool (Lib.hasPrefix s p)])
 |218,[.str s,.str p]=>some (.str (Lib.trimPrefix s p))
 |_,_=>none
theorem si:OracleOk Tryz.prog (ai lf):=bM fun f args v h mem=>by
 unfold lf at h
 split at h
 ·cases h;exact we _ _ mem
 ·cases h;exact tV _ _ mem
 ·cases h
theorem xO(s p:List UInt8) (mem:Mem):ACallsTo Tryz.prog 154 [.str s,.str p] mem (.tuple [.str (Lib.trimPrefix s p),.bool (Lib.hasPrefix s p)]) mem:=by
 have hG:aN Tryz.prog 154=some Tryz.f154:=by kernel_rfl
 refine aq si (lv:=fun _=>[]) (K:=1) rfl rfl ?_ mem
 simp[aa,hG,Tryz.f154,ai,lf]
theorem wz(s p:List UInt8) (mem:Mem):ACallsTo Tryz.prog 155 [.str s,.str p] mem (.str (Lib.trimPrefix s p)) mem:=by
 have hG:aN Tryz.prog 155=some Tryz.f155:=by kernel_rfl
 refine aq si (lv:=fun _=>[]) (K:=1) rfl rfl ?_ mem
 simp[aa,hG,Tryz.f155,ai,lf]
def dD(n:Int):Bool:=decide (-9223372036854775808≤n)&&decide (n≤9223372036854775807)
noncomputable def ao(f:FuncId) (args:List AV):Option AV:=
 match f,args with
 |204,[.str s,.str p]=>some (.bool (Lib.hasPrefix s p))
 |156,[.str s,.str p]=>some (.int .i64 (Lib.compareBytes s p))
 |125,[.str s,.int .u8 c]=>if 0≤c then some (.int .i64 (Lib.indexByte s c.toNat.toUInt8)) else none
 |106,[.str s,.str [c]]=>if s.length≤1000000000 then some (if 0≤Lib.indexByte s c then .tuple [.str (s.take (Lib.indexByte s c).toNat),.str (s.drop ((Lib.indexByte s c).toNat+1)),.bool true] else .tuple [.str s,.str [],.bool false]) else none
 |154,[.str s,.str p]=>some (.tuple [.str (Lib.trimPrefix s p),.bool (Lib.hasPrefix s p)])
 |155,[.str s,.str p]=>some (.str (Lib.trimPrefix s p))
 |122,[.int .i64 n]=>if dD n then some (.str (bE n)) else none
 |185,[.str s]=>if s.length≤18 then match Lib.atoi s with
  |some n=>some (.tuple [.int .i64 n,.nilIface])
  |none=>none
  else none
 |_,_=>none
theorem dc:OracleOk Tryz.prog (ai ao):=bM fun f args v h mem=>by
 unfold ao at h
 split at h
 ·cases h;exact xQ _ _ mem
 ·cases h;exact BC _ _ mem
 ·split at h
  ·rename_i hc;cases h;exact wj _ _ hc mem
  ·cases h
 ·split at h
  ·rename_i hl;cases h;exact MP _ _ mem hl
  ·cases h
 ·cases h;exact xO _ _ mem
 ·cases h;exact wz _ _ mem
 ·split at h
  ·rename_i hn
   cases h
   simp only[dD,Bool.and_eq_true,decide_eq_true_eq] at hn
   exact KJ _ hn.1 hn.2 mem
  ·cases h
 ·split at h
  ·rename_i hl
   split at h
   ·rename_i n hn;cases h;exact Ky _ _ hl hn mem
   ·cases h
  ·cases h
 ·cases h
end Go.Proofs
