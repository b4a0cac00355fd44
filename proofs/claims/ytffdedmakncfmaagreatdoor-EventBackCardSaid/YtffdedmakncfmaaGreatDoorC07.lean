/- See C54. -/
import Derived.Test.YtffdedmakncfmaaGreatDoorC06
import Derived.Test.YtffdedmakncfmaaGreatDoorProg
import Derived.KernelRfl
import Derived.Lib.Slices
import Derived.Lib.Walk
import Derived.Shelf.Strconv.Itoa3
import Derived.Shelf.Strconv.Atoi
import Derived.Ground.NamesProg
set_option linter.all false
set_option maxRecDepth 100000
set_option maxHeartbeats 40000000
namespace Go.Proofs
open Go.Eng
open Tryz
theorem aj:prog.follows .mixedOrders=true:=by kernel_rfl
theorem mE(a b:ByteArray)(w:World):
  Calls prog 219 #[.string a,.string b] w fun e w' =>e=.returned (.int .i64 (Lib.compareBytes a.data.toList b.data.toList))∧w' =w:=by
 go_enter func219,ntmps219
 go_wp2
 rw[run_callFunc_extern func252 (by kernel_rfl) (by kernel_rfl) (by kernel_rfl) (e:=Extern.BytealgCompare.compare) (by kernel_rfl),Lib.run_compareString];simp only[Result.andThen];rw[Oper.upon_value]
 go_wp2
 go_ret
 exact⟨rfl,rfl⟩
theorem iy(s:ByteArray)(c:Int)(w:World):
  Calls prog 189 #[.string s,.int .u8 c] w fun e w' =>e=.returned (.int .i64 (Lib.indexByte s.data.toList c.toNat.toUInt8))∧w' =w:=by
 go_enter func189,ntmps189
 go_wp2
 rw[run_callFunc_extern func232 (by kernel_rfl) (by kernel_rfl) (by kernel_rfl) (e:=Extern.BytealgIndexByte.indexByte) (by kernel_rfl),Lib.run_indexByteString];simp only[Result.andThen];rw[Oper.upon_value]
 go_wp2
 go_ret
 exact⟨rfl,rfl⟩
theorem mF(s:ByteArray)(c:UInt8)(w:World):
  Calls prog 216 #[.string s,.string ⟨#[c]⟩] w fun e w' =>e=.returned (.int .i64 (Lib.indexByte s.data.toList c))∧w' =w:=by
 go_enter func216,ntmps216
 go_wp2_with (go_at_call 189;refine(iy _ _ _).mono ?_;rintro e w' ⟨rfl,rfl⟩)
 ·have h:([c]==s.toList)=true:=by assumption
  go_ret
  refine⟨?_,rfl⟩;have e:s.data.toList=[c]:=by rw[←Lib.toList_data];exact(beq_iff_eq.1 h).symm
  rw[e];simp[Lib.indexByte]
 ·go_ret
  exact⟨rfl,rfl⟩
theorem il(f:FuncId){fn:Func}(h:prog.funcs[f]? =some fn)(y:fn.body.isSome=true)(H:(fn.name == "runtime.NumGoroutine")=false):Vw prog f:=⟨fn,h,y,H⟩
theorem lK(a b:List UInt8)(mem:Mem):kO prog 219 [.str a,.str b] mem (.int .i64 (Lib.compareBytes a b)) mem:=
 kO.agu (il _ func219 (by kernel_rfl) (by kernel_rfl)) (Vs:=[.string ⟨a.toArray⟩,.string ⟨b.toArray⟩]) (fun μ n Us h=>by simpa [afS,afQ] using h) (V:=.int .i64 (Lib.compareBytes a b)) (fun μ n=>by simp[afQ])
  (fun Z w _=>(mE ⟨a.toArray⟩ ⟨b.toArray⟩ w).mono fun e w' ⟨h1,h2⟩=>⟨h1,h2▸agk.refl w⟩) mem
theorem rq(s:List UInt8)(c:Nat)(mem:Mem):kO prog 189 [.str s,.int .u8 c] mem (.int .i64 (Lib.indexByte s c.toUInt8)) mem:=
 kO.agu (il _ func189 (by kernel_rfl) (by kernel_rfl)) (Vs:=[.string ⟨s.toArray⟩,.int .u8 c]) (fun μ n Us h=>by simpa [afS,afQ] using h) (V:=.int .i64 (Lib.indexByte s c.toUInt8)) (fun μ n=>by simp[afQ])
  (fun Z w _=>(iy ⟨s.toArray⟩ c w).mono fun e w' ⟨h1,h2⟩=>⟨by simpa using h1,h2▸agk.refl w⟩) mem
theorem Ee(s:List UInt8)(c:UInt8)(mem:Mem):kO prog 216 [.str s,.str [c]] mem (.int .i64 (Lib.indexByte s c)) mem:=
 kO.agu (il _ func216 (by kernel_rfl) (by kernel_rfl)) (Vs:=[.string ⟨s.toArray⟩,.string ⟨#[c]⟩]) (fun μ n Us h=>by simpa [afS,afQ] using h) (V:=.int .i64 (Lib.indexByte s c)) (fun μ n=>by simp[afQ])
  (fun Z w _=>(mF ⟨s.toArray⟩ c w).mono fun e w' ⟨h1,h2⟩=>⟨h1,h2▸agk.refl w⟩) mem
theorem G6:bh prog 3=some ⟨.int .i64,1,8,.int .i64 0,true⟩:=by kernel_rfl
theorem XB:bh prog 4=some ⟨.bool,1,1,.bool false,true⟩:=by kernel_rfl
theorem XC:bh prog 5=some ⟨.int .u8,1,1,.int .u8 0,true⟩:=by kernel_rfl
theorem XD:bh prog 9=some ⟨.string,1,16,.string ⟨#[]⟩,true⟩:=by kernel_rfl
theorem VL:bh prog 22=some ⟨.int .i8,1,1,.int .i8 0,true⟩:=by kernel_rfl
theorem VU:bh prog 35=some ⟨.int .i16,1,2,.int .i16 0,true⟩:=by kernel_rfl
theorem VX:bh prog 41=some ⟨.slice 100,1,24,.slice none 0 0,true⟩:=by kernel_rfl
theorem VY:bh prog 42=some ⟨.slice 151,1,24,.slice none 0 0,true⟩:=by kernel_rfl
theorem V0:bh prog 46=some ⟨.slice 52,1,24,.slice none 0 0,true⟩:=by kernel_rfl
theorem V2:bh prog 47=some ⟨.slice 52,1,24,.slice none 0 0,true⟩:=by kernel_rfl
theorem V4:bh prog 48=some ⟨.slice 9,1,24,.slice none 0 0,true⟩:=by kernel_rfl
theorem V5:bh prog 49=some ⟨.slice 47,1,24,.slice none 0 0,true⟩:=by kernel_rfl
theorem V7:bh prog 52=some ⟨.string,1,16,.string ⟨#[]⟩,true⟩:=by kernel_rfl
theorem Wb:bh prog 59=some ⟨.slice 91,1,24,.slice none 0 0,true⟩:=by kernel_rfl
theorem Wj:bh prog 96=some ⟨.slice 102,1,24,.slice none 0 0,true⟩:=by kernel_rfl
theorem Ty:bh prog 155=some ⟨.string,1,16,.string ⟨#[]⟩,true⟩:=by kernel_rfl
theorem Tz:bh prog 196=some ⟨.slice 3,1,24,.slice none 0 0,true⟩:=by kernel_rfl
theorem TA:bh prog 206=some ⟨.slice 246,1,24,.slice none 0 0,true⟩:=by kernel_rfl
theorem TC:bh prog 214=some ⟨.slice 54,1,24,.slice none 0 0,true⟩:=by kernel_rfl
theorem TD:bh prog 236=some ⟨.map 100 4,1,8,.map none,true⟩:=by kernel_rfl
theorem TE:bh prog 246=some ⟨.int .u64,1,8,.int .u64 0,true⟩:=by kernel_rfl
theorem TF:bh prog 250=some ⟨.pointer 253,1,8,.pointer none,true⟩:=by kernel_rfl
theorem TG:bh prog 251=some ⟨.slice 5,1,24,.slice none 0 0,true⟩:=by kernel_rfl
theorem Lt:bh prog 276=some ⟨.map 102 3,1,8,.map none,true⟩:=by kernel_rfl
theorem Lu:bh prog 279=some ⟨.map 3 4,1,8,.map none,true⟩:=by kernel_rfl
theorem TI:bh prog 289=some ⟨.pointer 5,1,8,.pointer none,true⟩:=by kernel_rfl
theorem TJ:bh prog 313=some ⟨.map 3 3,1,8,.map none,true⟩:=by kernel_rfl
attribute [simp] G6 XB XC XD VL VU VX VY V0 V2 V4
attribute [simp] V5 V7 Wb Wj Ty Tz TA TC TD TE TF TG Lt Lu TI
attribute [simp] TJ
noncomputable def tF(f:FuncId)(args:List AV):Option AV:=
 match f,args with
 |219,[.str a,.str b]=>some (.int .i64 (Lib.compareBytes a b))
 |189,[.str s,.int .u8 c]=>if 0≤c then some (.int .i64 (Lib.indexByte s c.toNat.toUInt8)) else none
 |216,[.str s,.str [c]]=>some (.int .i64 (Lib.indexByte s c))
 |_,_=>none
theorem I7:qS prog (ag tF):=bF fun f Z v h mem=>by
 unfold tF at h;split at h
 ·cases h;exact lK _ _ mem
 ·split at h
  ·rename_i c X
   cases h;have e:c=((c.toNat:Nat):Int):=by omega
   have:=rq ‹List UInt8› c.toNat mem;rw[←e] at this;exact this
  ·cases h
 ·cases h;exact Ee _ _ mem
 ·cases h
variable{K:Nat}{O:afF}{args:List AV}{f:FuncId}{lv:Code→List Nat}{v:AV}
theorem cK(y:qS prog O)(H:AV.afT args=true)(I:v.closed=true)(h:aa (bh prog) lv (aS prog) O K f args []=some ⟨v,none,[]⟩)(mem:Mem):kO prog f args mem v mem:=
 kO.ahX aj (aK _) y (aR _) H I h mem
variable{mem:Mem}
section
variable (hO:qS prog O)
include hO
theorem Tq{new:Mem}(h:aa (bh prog) lv (aS prog) O K f args mem=some ⟨v,none,new⟩):kO prog f args mem v (mem++new):=
 (ar aj (aK _) hO (aR _) h).1
theorem cE(h:aa (bh prog) lv (aS prog) O K f args mem=some ⟨v,none,[]⟩):kO prog f args mem v mem:=by simpa using Tq hO h
theorem er(h:aa (bh prog) (fun _=>[]) (aS prog) O 1 f args mem=some ⟨v,none,[]⟩):kO prog f args mem v mem:=cE hO h
theorem ao(h:aa (bh prog) (fun _=>[]) (aS prog) O 1 f args []=some ⟨v,none,[]⟩)(mem:Mem)(y:AV.afT args=true:=by rfl)(Z:v.closed=true:=by rfl):kO prog f args mem v mem:=cK hO y Z h mem
end
theorem Lb:aS prog 242=some f242:=by kernel_rfl
theorem Ah(s p:List UInt8)(mem:Mem):kO prog 242 [.str s,.str p] mem (.bool (Lib.hasPrefix s p)) mem:=by
 refine ao (aw _) ?_ mem;rw[←Lib.hasPrefix_of_take];by_cases h:p.length≤s.length
 ·simp[aa,Lb,f242,h]
 ·simp[aa,Lb,f242,h]
theorem La:aS prog 153=some f153:=by kernel_rfl
theorem yr{s:List UInt8}{c:UInt8}{i:Nat}(h:Lib.indexByte s c=i):i<s.length:=by have:=(Lib.indexByte_some h).1;exact(gL this)
theorem QN(s:List UInt8)(c:UInt8)(mem:Mem)(y:s.length≤1000000000):kO prog 153 [.str s,.str [c]] mem (if 0≤Lib.indexByte s c then .tuple [.str (s.take (Lib.indexByte s c).toNat),.str (s.drop ((Lib.indexByte s c).toNat+1)),.bool true] else .tuple [.str s,.str [],.bool false]) mem:=by
 refine cK I7 (lv:=fun _=>[]) (K:=1) rfl (by split<;>rfl) ?_ mem;by_cases h:0≤Lib.indexByte s c
 ·obtain⟨i,Z⟩:∃i:Nat,Lib.indexByte s c=i:=⟨_,(Int.toNat_of_nonneg h).symm⟩
  have R:=yr Z;have X:(i:Int)≤s.length:=by omega
  have V:IntKind.i64.wrap ((i:Int)+1)=(i:Int)+1:=af;have h3:(i:Int)+1≤s.length:=by omega
  have U:((i:Int)+1).toNat=i+1:=by omega
  have S:(0:Int)≤(i:Int)+1:=by omega
  simp[aa,La,f153,Z,ag,tF,X,V,h3,U,S];rw[List.take_of_length_le (by simp)]
 ·simp[aa,La,f153,h,ag,tF]
noncomputable def eZ(f:FuncId)(args:List AV):Option AV:=
 match f,args with
 |219,[.str a,.str b]=>some (.int .i64 (Lib.compareBytes a b))
 |189,[.str s,.int .u8 c]=>if 0≤c then some (.int .i64 (Lib.indexByte s c.toNat.toUInt8)) else none
 |242,[.str s,.str p]=>some (.bool (Lib.hasPrefix s p))
 |153,[.str s,.str [c]]=>if s.length≤1000000000 then some (if 0≤Lib.indexByte s c then .tuple [.str (s.take (Lib.indexByte s c).toNat),.str (s.drop ((Lib.indexByte s c).toNat+1)),.bool true] else .tuple [.str s,.str [],.bool false]) else none
 |_,_=>none
theorem ij:qS prog (ag eZ):=bF fun f args v h mem=>by
 unfold eZ at h;split at h
 ·cases h;exact lK _ _ mem
 ·split at h
  ·rename_i c X
   cases h;have e:c=((c.toNat:Nat):Int):=by omega
   have:=rq ‹List UInt8› c.toNat mem;rw[←e] at this;exact this
  ·cases h
 ·cases h;exact Ah _ _ mem
 ·split at h
  next Z=>cases h;exact QN _ _ mem Z
  ·cases h
 ·cases h
theorem BI(s p:List UInt8)(mem:Mem):kO prog 204 [.str s,.str p] mem (.bool (Lib.hasPrefix s p)) mem:=by
 have Z:aS prog 204=some f204:=by kernel_rfl
 refine ao ij ?_ mem;simp[aa,Z,f204,ag,eZ]
theorem F4(s p:List UInt8)(mem:Mem):kO prog 156 [.str s,.str p] mem (.int .i64 (Lib.compareBytes s p)) mem:=by
 have Z:aS prog 156=some f156:=by kernel_rfl
 refine ao ij ?_ mem;simp[aa,Z,f156,ag,eZ]
theorem Ai(s:List UInt8)(c:Int)(hc:0≤c)(mem:Mem):kO prog 125 [.str s,.int .u8 c] mem (.int .i64 (Lib.indexByte s c.toNat.toUInt8)) mem:=by
 have Z:aS prog 125=some f125:=by kernel_rfl
 refine ao ij ?_ mem;simp[aa,Z,f125,ag,eZ,hc]
theorem Tf(s:List UInt8)(c:UInt8)(mem:Mem)(y:s.length≤1000000000):kO prog 106 [.str s,.str [c]] mem (if 0≤Lib.indexByte s c then .tuple [.str (s.take (Lib.indexByte s c).toNat),.str (s.drop ((Lib.indexByte s c).toNat+1)),.bool true] else .tuple [.str s,.str [],.bool false]) mem:=by
 have Z:aS prog 106=some f106:=by kernel_rfl
 refine cK ij (lv:=fun _=>[]) (K:=1) rfl (by split<;>rfl) ?_ mem;by_cases h:0≤Lib.indexByte s c
 ·simp[aa,Z,f106,ag,eZ,y,h]
 ·simp[aa,Z,f106,ag,eZ,y,h]
theorem Af(s p:List UInt8)(mem:Mem):kO prog 217 [.str s,.str p] mem (.tuple [.str (Lib.trimPrefix s p),.bool (Lib.hasPrefix s p)]) mem:=by
 have X:aS prog 217=some f217:=by kernel_rfl
 refine ao ij ?_ mem;cases h:Lib.hasPrefix s p with
 |false=>simp[aa,X,f217,ag,eZ,h,Lib.trimPrefix]
 |true=>
  have Z:p.length≤s.length:=(List.isPrefixOf_iff_prefix.1 h).length_le;simp[aa,X,f217,ag,eZ,h,Lib.trimPrefix,Z];rw[List.take_of_length_le (by simp)]
theorem yf(s p:List UInt8)(mem:Mem):kO prog 218 [.str s,.str p] mem (.str (Lib.trimPrefix s p)) mem:=by
 have X:aS prog 218=some f218:=by kernel_rfl
 refine ao ij ?_ mem;cases h:Lib.hasPrefix s p with
 |false=>simp[aa,X,f218,ag,eZ,h,Lib.trimPrefix]
 |true=>
  have Z:p.length≤s.length:=(List.isPrefixOf_iff_prefix.1 h).length_le;simp[aa,X,f218,ag,eZ,h,Lib.trimPrefix,Z];rw[List.take_of_length_le (by simp)]
end Go.Proofs
namespace Go.Proofs
open Go.Eng Go.Shelf
open Tryz
def yw:Go.Shelf.Ren:=⟨fun | 171=>122 | 243=>188 | 246=>231 | 283=>263 | 284=>264 | 285=>265 | 286=>266 | 129=>281 | 317=>280 | 318=>282 | 319=>283 | 320=>284 | 337=>288 | 338=>289 | n=>n,fun | 3=>3 | 9=>9 | 2=>2 | 4=>4 | 171=>305 | 0=>0 | 53=>246 | 37=>251 | 5=>5 | 173=>308 | 212=>330 | 51=>321 | 20=>20 | 213=>331 | 46=>293 | 232=>342 | 233=>343 | n=>n,fun | 17=>3 | 18=>4 | 19=>5 | n=>n⟩
theorem GX:Go.Proofs.LaysM.n171 prog yw:={
 mixed:=by kernel_rfl
 f129:=func281.trans (congrArg some (by kernel_rfl))
 f171:=func122.trans (congrArg some (by kernel_rfl))
 f243:=func188.trans (congrArg some (by kernel_rfl))
 f246:=func231.trans (congrArg some (by kernel_rfl))
 f283:=func263.trans (congrArg some (by kernel_rfl))
 f284:=func264.trans (congrArg some (by kernel_rfl))
 f285:=func265.trans (congrArg some (by kernel_rfl))
 f286:=func266.trans (congrArg some (by kernel_rfl))
 f317:=func280.trans (congrArg some (by kernel_rfl))
 f318:=func282.trans (congrArg some (by kernel_rfl))
 f319:=func283.trans (congrArg some (by kernel_rfl))
 f320:=func284.trans (congrArg some (by kernel_rfl))
 f337:=func288.trans (congrArg some (by kernel_rfl))
 f338:=func289.trans (congrArg some (by kernel_rfl))
 t0:=underlying0
 a0:=isAgg0
 z0:=sizeOf0
 v0:=zeroValue0
 t2:=underlying2
 a2:=isAgg2
 z2:=sizeOf2
 v2:=zeroValue2
 t3:=underlying3
 a3:=isAgg3
 z3:=sizeOf3
 v3:=zeroValue3
 t4:=underlying4
 a4:=isAgg4
 z4:=sizeOf4
 v4:=zeroValue4
 t5:=underlying5
 a5:=isAgg5
 z5:=sizeOf5
 v5:=zeroValue5
 t9:=underlying9
 a9:=isAgg9
 z9:=sizeOf9
 v9:=zeroValue9
 t20:=underlying20
 a20:=isAgg20
 z20:=sizeOf20
 v20:=zeroValue20
 t37:=underlying251
 a37:=isAgg251
 z37:=sizeOf251
 v37:=zeroValue251
 t46:=underlying293
 a46:=isAgg293
 z46:=sizeOf293
 v46:=zeroValue293
 t51:=underlying321
 a51:=isAgg321
 z51:=sizeOf321
 v51:=zeroValue321
 t53:=underlying246
 a53:=isAgg246
 z53:=sizeOf246
 v53:=zeroValue246
 t171:=underlying305
 a171:=isAgg305
 z171:=sizeOf305
 v171:=zeroValue305
 t173:=underlying308
 a173:=isAgg308
 z173:=sizeOf308
 v173:=zeroValue308
 t212:=underlying330
 a212:=isAgg330
 z212:=sizeOf330
 v212:=zeroValue330
 t213:=underlying331
 a213:=isAgg331
 z213:=sizeOf331
 t232:=underlying342
 a232:=isAgg342
 z232:=sizeOf342
 v232:=zeroValue342
 t233:=underlying343
 a233:=isAgg343
 z233:=sizeOf343
 v233:=zeroValue343
 g17:=by kernel_rfl
 g18:=by kernel_rfl
 g19:=by kernel_rfl
 i0:=by kernel_rfl
 i2:=by kernel_rfl
 i3:=by kernel_rfl
 i4:=by kernel_rfl
 i5:=by kernel_rfl
 i9:=by kernel_rfl
 i20:=by kernel_rfl
 i37:=by kernel_rfl
 i46:=by kernel_rfl
 i51:=by kernel_rfl
 i53:=by kernel_rfl
 i171:=by kernel_rfl
 i173:=by kernel_rfl
 i212:=by kernel_rfl
 i232:=by kernel_rfl
 i233:=by kernel_rfl
 m17:=by kernel_rfl
 m18:=by kernel_rfl
 m19:=by kernel_rfl }
def yv:Go.Shelf.Ren:=⟨fun | 172=>185 | 244=>229 | 245=>230 | 247=>258 | 279=>259 | 280=>260 | 281=>261 | 282=>262 | 287=>243 | 316=>278 | 171=>122 | 205=>279 | 321=>272 | 322=>273 | 243=>188 | 246=>231 | 283=>263 | 284=>264 | 285=>265 | 286=>266 | 129=>281 | 317=>280 | 318=>282 | 319=>283 | 320=>284 | 337=>288 | 338=>289 | n=>n,fun | 9=>9 | 3=>3 | 75=>229 | 76=>230 | 4=>4 | 5=>5 | 167=>299 | 37=>251 | 0=>0 | 85=>300 | 2=>2 | 168=>302 | 53=>246 | 175=>247 | 46=>293 | 210=>327 | 127=>289 | 145=>340 | 143=>338 | 21=>21 | 171=>305 | 173=>308 | 212=>330 | 51=>321 | 20=>20 | 213=>331 | 232=>342 | 233=>343 | 80=>259 | n=>n,fun | 15=>1 | 16=>2 | 17=>3 | 18=>4 | 19=>5 | n=>n⟩
theorem GW:Go.Proofs.Lays.n172 prog yv:={
 mixed:=by kernel_rfl
 f129:=func281.trans (congrArg some (by kernel_rfl))
 f171:=func122.trans (congrArg some (by kernel_rfl))
 f172:=func185.trans (congrArg some (by kernel_rfl))
 f205:=func279.trans (congrArg some (by kernel_rfl))
 f243:=func188.trans (congrArg some (by kernel_rfl))
 f244:=func229.trans (congrArg some (by kernel_rfl))
 f245:=func230.trans (congrArg some (by kernel_rfl))
 f246:=func231.trans (congrArg some (by kernel_rfl))
 f247:=func258.trans (congrArg some (by kernel_rfl))
 f279:=func259.trans (congrArg some (by kernel_rfl))
 f280:=func260.trans (congrArg some (by kernel_rfl))
 f281:=func261.trans (congrArg some (by kernel_rfl))
 f282:=func262.trans (congrArg some (by kernel_rfl))
 f283:=func263.trans (congrArg some (by kernel_rfl))
 f284:=func264.trans (congrArg some (by kernel_rfl))
 f285:=func265.trans (congrArg some (by kernel_rfl))
 f286:=func266.trans (congrArg some (by kernel_rfl))
 f287:=func243.trans (congrArg some (by kernel_rfl))
 f316:=func278.trans (congrArg some (by kernel_rfl))
 f317:=func280.trans (congrArg some (by kernel_rfl))
 f318:=func282.trans (congrArg some (by kernel_rfl))
 f319:=func283.trans (congrArg some (by kernel_rfl))
 f320:=func284.trans (congrArg some (by kernel_rfl))
 f321:=func272.trans (congrArg some (by kernel_rfl))
 f322:=func273.trans (congrArg some (by kernel_rfl))
 f337:=func288.trans (congrArg some (by kernel_rfl))
 f338:=func289.trans (congrArg some (by kernel_rfl))
 t0:=underlying0
 a0:=isAgg0
 z0:=sizeOf0
 v0:=zeroValue0
 t2:=underlying2
 a2:=isAgg2
 z2:=sizeOf2
 v2:=zeroValue2
 t3:=underlying3
 a3:=isAgg3
 z3:=sizeOf3
 v3:=zeroValue3
 t4:=underlying4
 a4:=isAgg4
 z4:=sizeOf4
 v4:=zeroValue4
 t5:=underlying5
 a5:=isAgg5
 z5:=sizeOf5
 v5:=zeroValue5
 t9:=underlying9
 a9:=isAgg9
 z9:=sizeOf9
 v9:=zeroValue9
 t20:=underlying20
 a20:=isAgg20
 z20:=sizeOf20
 v20:=zeroValue20
 t21:=underlying21
 a21:=isAgg21
 z21:=sizeOf21
 v21:=zeroValue21
 t37:=underlying251
 a37:=isAgg251
 z37:=sizeOf251
 v37:=zeroValue251
 t46:=underlying293
 a46:=isAgg293
 z46:=sizeOf293
 v46:=zeroValue293
 t51:=underlying321
 a51:=isAgg321
 z51:=sizeOf321
 v51:=zeroValue321
 t53:=underlying246
 a53:=isAgg246
 z53:=sizeOf246
 v53:=zeroValue246
 t75:=underlying229
 a75:=isAgg229
 z75:=sizeOf229
 v75:=zeroValue229
 t76:=underlying230
 a76:=isAgg230
 z76:=sizeOf230
 v76:=zeroValue230
 t85:=underlying300
 a85:=isAgg300
 z85:=sizeOf300
 v85:=zeroValue300
 t127:=underlying289
 a127:=isAgg289
 z127:=sizeOf289
 v127:=zeroValue289
 t143:=underlying338
 a143:=isAgg338
 z143:=sizeOf338
 v143:=zeroValue338
 t145:=underlying340
 a145:=isAgg340
 z145:=sizeOf340
 v145:=zeroValue340
 t167:=underlying299
 a167:=isAgg299
 z167:=sizeOf299
 v167:=zeroValue299
 t168:=underlying302
 a168:=isAgg302
 z168:=sizeOf302
 v168:=zeroValue302
 t171:=underlying305
 a171:=isAgg305
 z171:=sizeOf305
 v171:=zeroValue305
 t173:=underlying308
 a173:=isAgg308
 z173:=sizeOf308
 v173:=zeroValue308
 t175:=underlying247
 a175:=isAgg247
 z175:=sizeOf247
 v175:=zeroValue247
 t210:=underlying327
 a210:=isAgg327
 z210:=sizeOf327
 v210:=zeroValue327
 t212:=underlying330
 a212:=isAgg330
 z212:=sizeOf330
 v212:=zeroValue330
 t213:=underlying331
 a213:=isAgg331
 z213:=sizeOf331
 t232:=underlying342
 a232:=isAgg342
 z232:=sizeOf342
 v232:=zeroValue342
 t233:=underlying343
 a233:=isAgg343
 z233:=sizeOf343
 v233:=zeroValue343
 g15:=by kernel_rfl
 g16:=by kernel_rfl
 g17:=by kernel_rfl
 g18:=by kernel_rfl
 g19:=by kernel_rfl }
theorem om(w:World)(e:TypeId)(s:ByteArray):agk w (Lib.bytesWorld w e s):=
 ⟨by rw[Lib.bytesWorld_size];omega,fun k Z=>Lib.bytesWorld_at_old w e s k Z,rfl,rfl,rfl,by first | exact Nat.le_refl _ | exact Nat.le_add_right _ _ | exact Nat.le_succ _⟩
theorem QX(n:Int)(h0: -9223372036854775808≤n)(h1:n≤9223372036854775807)(mem:Mem):kO prog 122 [.int .i64 n] mem (.str (bB n)) mem:=
 kO.agu (il _ func122 (by kernel_rfl) (by kernel_rfl)) (Vs:=[.int .i64 n]) (fun μ n Us h=>by simpa [afS,afQ] using h) (V:=.string ⟨(bB n).toArray⟩) (fun μ n=>by simp[afQ])
  (fun Z w X=>(Any.strconv_Itoa GX n h0 h1 w (X.ahR (by kernel_rfl))).mono fun e w' ⟨h1,k,os,h2⟩=>⟨by rw[h1,Ur],h2▸agk.grow w k os⟩) mem
theorem QM(s:List UInt8)(n:Int)(y:s.length≤18)(h:Lib.atoi s=some n)(mem:Mem):kO prog 185 [.str s] mem (.tuple [.int .i64 n,.nilIface]) mem:=
 kO.agu (il _ func185 (by kernel_rfl) (by kernel_rfl)) (Vs:=[.string ⟨s.toArray⟩]) (fun μ n Us h=>by simpa [afS,afQ] using h) (V:=.tuple #[.int .i64 n,.nilIface]) (fun μ n=>by simp only[afQ,afS];exact⟨_,rfl,_,_,rfl,rfl,_,_,rfl,rfl,rfl⟩)
  (fun Z w X=>(Any.strconv_Atoi GW ⟨s.toArray⟩ n (by simpa [ByteArray.size] using y) (by simpa using h) w).mono fun e w' ⟨h1,t,h2⟩=>⟨h1,by rw[h2];exact om _ _ _⟩) mem
end Go.Proofs
namespace Go.Proofs
open Go.Eng
open Tryz
noncomputable def pj(f:FuncId)(args:List AV):Option AV:=
 match f,args with
 |217,[.str s,.str p]=>some (.tuple [.str (Lib.trimPrefix s p),.bool (Lib.hasPrefix s p)])
 |218,[.str s,.str p]=>some (.str (Lib.trimPrefix s p))
 |_,_=>none
theorem wR:qS prog (ag pj):=bF fun f Z v h mem=>by
 unfold pj at h;split at h
 ·cases h;exact Af _ _ mem
 ·cases h;exact yf _ _ mem
 ·cases h
theorem BF(s p:List UInt8)(mem:Mem):kO prog 154 [.str s,.str p] mem (.tuple [.str (Lib.trimPrefix s p),.bool (Lib.hasPrefix s p)]) mem:=by
 have Z:aS prog 154=some f154:=by kernel_rfl
 refine ao wR ?_ mem;simp[aa,Z,f154,ag,pj]
theorem Am(s p:List UInt8)(mem:Mem):kO prog 155 [.str s,.str p] mem (.str (Lib.trimPrefix s p)) mem:=by
 have Z:aS prog 155=some f155:=by kernel_rfl
 refine ao wR ?_ mem;simp[aa,Z,f155,ag,pj]
def dL(n:Int):Bool:=decide (-9223372036854775808≤n)&&decide (n≤9223372036854775807)
noncomputable def aq(f:FuncId)(args:List AV):Option AV:=
 match f,args with
 |204,[.str s,.str p]=>some (.bool (Lib.hasPrefix s p))
 |156,[.str s,.str p]=>some (.int .i64 (Lib.compareBytes s p))
 |125,[.str s,.int .u8 c]=>if 0≤c then some (.int .i64 (Lib.indexByte s c.toNat.toUInt8)) else none
 |106,[.str s,.str [c]]=>if s.length≤1000000000 then some (if 0≤Lib.indexByte s c then .tuple [.str (s.take (Lib.indexByte s c).toNat),.str (s.drop ((Lib.indexByte s c).toNat+1)),.bool true] else .tuple [.str s,.str [],.bool false]) else none
 |154,[.str s,.str p]=>some (.tuple [.str (Lib.trimPrefix s p),.bool (Lib.hasPrefix s p)])
 |155,[.str s,.str p]=>some (.str (Lib.trimPrefix s p))
 |122,[.int .i64 n]=>if dL n then some (.str (bB n)) else none
 |185,[.str s]=>if s.length≤18 then match Lib.atoi s with
  |some n=>some (.tuple [.int .i64 n,.nilIface])
  |none=>none
  else none
 |_,_=>none
theorem dU:qS prog (ag aq):=bF fun f V v h mem=>by
 unfold aq at h;split at h
 ·cases h;exact BI _ _ mem
 ·cases h;exact F4 _ _ mem
 ·split at h
  next U=>cases h;exact Ai _ _ U mem
  ·cases h
 ·split at h
  next X=>cases h;exact Tf _ _ mem X
  ·cases h
 ·cases h;exact BF _ _ mem
 ·cases h;exact Am _ _ mem
 ·split at h
  ·rename_i Z
   cases h;simp only[dL,Bool.and_eq_true,decide_eq_true_eq] at Z;exact QX _ Z.1 Z.2 mem
  ·cases h
 ·split at h
  ·rename_i X
   split at h
   next n Z=>cases h;exact QM _ _ X Z mem
   ·cases h
  ·cases h
 ·cases h
end Go.Proofs
