/- See H38. -/
import Derived.Test.YthpgbelancmpjaaGreatDoorH06
import Derived.Test.YthpgbelancmpjaaGreatDoorProg
import Derived.KernelRfl
import Derived.Lib.Slices
import Derived.Lib.Walk
import Derived.Shelf.Strconv.Itoa3
import Derived.Shelf.Strconv.Atoi
import Derived.Ground.NamesProg
set_option linter.all false
set_option maxRecDepth 100000
set_option maxHeartbeats 40000000
namespace Go.Proofs
open Go.Eng
open Tryz
theorem ak:prog.follows .mixedOrders=true:=by kernel_rfl
theorem mD(a b:ByteArray)(w:World):
  Calls prog 265 #[.string a,.string b] w fun e w' =>e=.returned (.int .i64 (Lib.compareBytes a.data.toList b.data.toList))/\w' =w:=by
 go_enter func265,ntmps265
 go_wp2
 rw[run_callFunc_extern func284 (by kernel_rfl) (by kernel_rfl) (by kernel_rfl) (e:=Extern.BytealgCompare.compare) (by kernel_rfl),Lib.run_compareString];simp only[Result.andThen];rw[Oper.upon_value]
 go_wp2
 go_ret
 exact⟨rfl,rfl⟩
theorem iv(s:ByteArray)(c:Int)(w:World):
  Calls prog 187 #[.string s,.int .u8 c] w fun e w' =>e=.returned (.int .i64 (Lib.indexByte s.data.toList c.toNat.toUInt8))/\w' =w:=by
 go_enter func187,ntmps187
 go_wp2
 rw[run_callFunc_extern func243 (by kernel_rfl) (by kernel_rfl) (by kernel_rfl) (e:=Extern.BytealgIndexByte.indexByte) (by kernel_rfl),Lib.run_indexByteString];simp only[Result.andThen];rw[Oper.upon_value]
 go_wp2
 go_ret
 exact⟨rfl,rfl⟩
theorem mE(s:ByteArray)(c:UInt8)(w:World):
  Calls prog 262 #[.string s,.string ⟨#[c]⟩] w fun e w' =>e=.returned (.int .i64 (Lib.indexByte s.data.toList c))/\w' =w:=by
 go_enter func262,ntmps262
 go_wp2_with (go_at_call 187;refine(iv _ _ _).mono ?_;rintro e w' ⟨rfl,rfl⟩)
 .have h:([c]==s.toList)=true:=by assumption
  go_ret
  refine⟨?_,rfl⟩;have e:s.data.toList=[c]:=by rw[<-Lib.toList_data];exact(beq_iff_eq.1 h).symm
  rw[e];simp[Lib.indexByte]
 .go_ret
  exact⟨rfl,rfl⟩
theorem ic(f:FuncId){fn:Func}(h:prog.funcs[f]? =some fn)(H:fn.body.isSome=true)(I:(fn.name == "runtime.NumGoroutine")=false):Ms prog f:=⟨fn,h,H,I⟩
theorem lJ(a b:List UInt8)(mem:Mem):bz prog 265 [.str a,.str b] mem (.int .i64 (Lib.compareBytes a b)) mem:=
 bz.aga (ic _ func265 (by kernel_rfl) (by kernel_rfl)) (Vs:=[.string ⟨a.toArray⟩,.string ⟨b.toArray⟩]) (fun μ n Us h=>by simpa [afy,afx] using h) (V:=.int .i64 (Lib.compareBytes a b)) (fun μ n=>by simp[afx])
  (fun Z w _=>(mD ⟨a.toArray⟩ ⟨b.toArray⟩ w).mono fun e w' ⟨h1,h2⟩=>⟨h1,h2▸afZ.refl w⟩) mem
theorem qQ(s:List UInt8)(c:Nat)(mem:Mem):bz prog 187 [.str s,.int .u8 c] mem (.int .i64 (Lib.indexByte s c.toUInt8)) mem:=
 bz.aga (ic _ func187 (by kernel_rfl) (by kernel_rfl)) (Vs:=[.string ⟨s.toArray⟩,.int .u8 c]) (fun μ n Us h=>by simpa [afy,afx] using h) (V:=.int .i64 (Lib.indexByte s c.toUInt8)) (fun μ n=>by simp[afx])
  (fun Z w _=>(iv ⟨s.toArray⟩ c w).mono fun e w' ⟨h1,h2⟩=>⟨by simpa using h1,h2▸afZ.refl w⟩) mem
theorem DV(s:List UInt8)(c:UInt8)(mem:Mem):bz prog 262 [.str s,.str [c]] mem (.int .i64 (Lib.indexByte s c)) mem:=
 bz.aga (ic _ func262 (by kernel_rfl) (by kernel_rfl)) (Vs:=[.string ⟨s.toArray⟩,.string ⟨#[c]⟩]) (fun μ n Us h=>by simpa [afy,afx] using h) (V:=.int .i64 (Lib.indexByte s c)) (fun μ n=>by simp[afx])
  (fun Z w _=>(mE ⟨s.toArray⟩ c w).mono fun e w' ⟨h1,h2⟩=>⟨h1,h2▸afZ.refl w⟩) mem
theorem GO:aL prog 3=some ⟨.int .i64,1,8,.int .i64 0,true⟩:=by kernel_rfl
theorem XA:aL prog 4=some ⟨.bool,1,1,.bool false,true⟩:=by kernel_rfl
theorem XB:aL prog 5=some ⟨.int .u8,1,1,.int .u8 0,true⟩:=by kernel_rfl
theorem XC:aL prog 9=some ⟨.string,1,16,.string ⟨#[]⟩,true⟩:=by kernel_rfl
theorem VK:aL prog 22=some ⟨.int .i8,1,1,.int .i8 0,true⟩:=by kernel_rfl
theorem VT:aL prog 41=some ⟨.slice 79,1,24,.slice none 0 0,true⟩:=by kernel_rfl
theorem VU:aL prog 42=some ⟨.slice 172,1,24,.slice none 0 0,true⟩:=by kernel_rfl
theorem VW:aL prog 46=some ⟨.slice 52,1,24,.slice none 0 0,true⟩:=by kernel_rfl
theorem VX:aL prog 47=some ⟨.slice 52,1,24,.slice none 0 0,true⟩:=by kernel_rfl
theorem VY:aL prog 48=some ⟨.slice 9,1,24,.slice none 0 0,true⟩:=by kernel_rfl
theorem VZ:aL prog 49=some ⟨.slice 47,1,24,.slice none 0 0,true⟩:=by kernel_rfl
theorem V4:aL prog 52=some ⟨.string,1,16,.string ⟨#[]⟩,true⟩:=by kernel_rfl
theorem V8:aL prog 59=some ⟨.slice 108,1,24,.slice none 0 0,true⟩:=by kernel_rfl
theorem Wd:aL prog 71=some ⟨.slice 56,1,24,.slice none 0 0,true⟩:=by kernel_rfl
theorem We:aL prog 75=some ⟨.slice 3,1,24,.slice none 0 0,true⟩:=by kernel_rfl
theorem TA:aL prog 111=some ⟨.slice 115,1,24,.slice none 0 0,true⟩:=by kernel_rfl
theorem TC:aL prog 176=some ⟨.string,1,16,.string ⟨#[]⟩,true⟩:=by kernel_rfl
theorem TD:aL prog 182=some ⟨.map 79 4,1,8,.map none,true⟩:=by kernel_rfl
theorem KK:aL prog 225=some ⟨.map 115 3,1,8,.map none,true⟩:=by kernel_rfl
theorem KL:aL prog 228=some ⟨.map 3 4,1,8,.map none,true⟩:=by kernel_rfl
theorem TE:aL prog 249=some ⟨.slice 293,1,24,.slice none 0 0,true⟩:=by kernel_rfl
theorem TG:aL prog 285=some ⟨.map 3 3,1,8,.map none,true⟩:=by kernel_rfl
theorem TH:aL prog 293=some ⟨.int .u64,1,8,.int .u64 0,true⟩:=by kernel_rfl
theorem TI:aL prog 297=some ⟨.pointer 300,1,8,.pointer none,true⟩:=by kernel_rfl
theorem TJ:aL prog 298=some ⟨.slice 5,1,24,.slice none 0 0,true⟩:=by kernel_rfl
theorem TL:aL prog 318=some ⟨.pointer 5,1,8,.pointer none,true⟩:=by kernel_rfl
attribute [simp] GO XA XB XC VK VT VU VW VX VY
attribute [simp] VZ V4 V8 Wd We TA TC TD KK KL TE TG TH TI TJ TL
noncomputable def sM(f:FuncId)(args:List AV):Option AV:=
 match f,args with
 |265,[.str a,.str b]=>some (.int .i64 (Lib.compareBytes a b))
 |187,[.str s,.int .u8 c]=>if 0<=c then some (.int .i64 (Lib.indexByte s c.toNat.toUInt8)) else none
 |262,[.str s,.str [c]]=>some (.int .i64 (Lib.indexByte s c))
 |_,_=>none
theorem Ix:afs prog (ai sM):=bT fun f Z v h mem=>by
 unfold sM at h;split at h
 .cases h;exact lJ _ _ mem
 .split at h
  .rename_i c X
   cases h;have e:c=((c.toNat:Nat):Int):=by omega
   have:=qQ ‹List UInt8› c.toNat mem;rw[<-e] at this;exact this
  .cases h
 .cases h;exact DV _ _ mem
 .cases h
variable{K:Nat}{O:afu}{args:List AV}{f:FuncId}{lv:Code->List Nat}{v:AV}
theorem dE(H:afs prog O)(I:AV.afA args=true)(J:v.closed=true)(h:ad (aL prog) lv (bq prog) O K f args []=some ⟨v,none,[]⟩)(mem:Mem):bz prog f args mem v mem:=
 bz.ahI ak (aI _) H (aQ _) I J h mem
variable{mem:Mem}
section
variable (hO:afs prog O)
include hO
theorem SZ{new:Mem}(h:ad (aL prog) lv (bq prog) O K f args mem=some ⟨v,none,new⟩):bz prog f args mem v (mem++new):=
 (aB ak (aI _) hO (aQ _) h).1
theorem fQ(h:ad (aL prog) lv (bq prog) O K f args mem=some ⟨v,none,[]⟩):bz prog f args mem v mem:=by simpa using SZ hO h
theorem wz(h:ad (aL prog) (fun _=>[]) (bq prog) O 1 f args mem=some ⟨v,none,[]⟩):bz prog f args mem v mem:=fQ hO h
theorem az(h:ad (aL prog) (fun _=>[]) (bq prog) O 1 f args []=some ⟨v,none,[]⟩)(mem:Mem)(H:AV.afA args=true:=by rfl)(Z:v.closed=true:=by rfl):bz prog f args mem v mem:=dE hO H Z h mem
end
theorem Ky:bq prog 276=some f276:=by kernel_rfl
theorem zP(s p:List UInt8)(mem:Mem):bz prog 276 [.str s,.str p] mem (.bool (Lib.hasPrefix s p)) mem:=by
 refine az (ar _) ?_ mem;rw[<-Lib.hasPrefix_of_take];by_cases h:p.length<=s.length
 .simp[ad,Ky,f276,h]
 .simp[ad,Ky,f276,h]
theorem Kx:bq prog 219=some f219:=by kernel_rfl
theorem xW{s:List UInt8}{c:UInt8}{i:Nat}(h:Lib.indexByte s c=i):i<s.length:=by have:=(Lib.indexByte_some h).1;exact(gL this)
theorem Pp(s:List UInt8)(c:UInt8)(mem:Mem)(H:s.length<=1000000000):bz prog 219 [.str s,.str [c]] mem (if 0<=Lib.indexByte s c then .tuple [.str (s.take (Lib.indexByte s c).toNat),.str (s.drop ((Lib.indexByte s c).toNat+1)),.bool true] else .tuple [.str s,.str [],.bool false]) mem:=by
 refine dE Ix (lv:=fun _=>[]) (K:=1) rfl (by split<;>rfl) ?_ mem;by_cases h:0<=Lib.indexByte s c
 .obtain⟨i,Z⟩:∃i:Nat,Lib.indexByte s c=i:=⟨_,(QQb h).symm⟩
  have R:=xW Z;have X:(i:Int)<=s.length:=by omega
  have V:IntKind.i64.wrap ((i:Int)+1)=(i:Int)+1:=af;have h3:(i:Int)+1<=s.length:=by omega
  have U:((i:Int)+1).toNat=i+1:=by omega
  have S:(0:Int)<=(i:Int)+1:=by omega
  simp[ad,Kx,f219,Z,ai,sM,X,V,h3,U,S];rw[An (by simp)]
 .simp[ad,Kx,f219,h,ai,sM]
noncomputable def fj(f:FuncId)(args:List AV):Option AV:=
 match f,args with
 |265,[.str a,.str b]=>some (.int .i64 (Lib.compareBytes a b))
 |187,[.str s,.int .u8 c]=>if 0<=c then some (.int .i64 (Lib.indexByte s c.toNat.toUInt8)) else none
 |276,[.str s,.str p]=>some (.bool (Lib.hasPrefix s p))
 |219,[.str s,.str [c]]=>if s.length<=1000000000 then some (if 0<=Lib.indexByte s c then .tuple [.str (s.take (Lib.indexByte s c).toNat),.str (s.drop ((Lib.indexByte s c).toNat+1)),.bool true] else .tuple [.str s,.str [],.bool false]) else none
 |_,_=>none
theorem ib:afs prog (ai fj):=bT fun f args v h mem=>by
 unfold fj at h;split at h
 .cases h;exact lJ _ _ mem
 .split at h
  .rename_i c X
   cases h;have e:c=((c.toNat:Nat):Int):=by omega
   have:=qQ ‹List UInt8› c.toNat mem;rw[<-e] at this;exact this
  .cases h
 .cases h;exact zP _ _ mem
 .split at h
  next Z=>cases h;exact Pp _ _ mem Z
  .cases h
 .cases h
theorem Bk(s p:List UInt8)(mem:Mem):bz prog 251 [.str s,.str p] mem (.bool (Lib.hasPrefix s p)) mem:=by
 have Z:bq prog 251=some f251:=by kernel_rfl
 refine az ib ?_ mem;simp[ad,Z,f251,ai,fj]
theorem FO(s p:List UInt8)(mem:Mem):bz prog 222 [.str s,.str p] mem (.int .i64 (Lib.compareBytes s p)) mem:=by
 have Z:bq prog 222=some f222:=by kernel_rfl
 refine az ib ?_ mem;simp[ad,Z,f222,ai,fj]
theorem zR(s:List UInt8)(c:Int)(hc:0<=c)(mem:Mem):bz prog 104 [.str s,.int .u8 c] mem (.int .i64 (Lib.indexByte s c.toNat.toUInt8)) mem:=by
 have Z:bq prog 104=some f104:=by kernel_rfl
 refine az ib ?_ mem;simp[ad,Z,f104,ai,fj,hc]
theorem R3(s:List UInt8)(c:UInt8)(mem:Mem)(H:s.length<=1000000000):bz prog 137 [.str s,.str [c]] mem (if 0<=Lib.indexByte s c then .tuple [.str (s.take (Lib.indexByte s c).toNat),.str (s.drop ((Lib.indexByte s c).toNat+1)),.bool true] else .tuple [.str s,.str [],.bool false]) mem:=by
 have Z:bq prog 137=some f137:=by kernel_rfl
 refine dE ib (lv:=fun _=>[]) (K:=1) rfl (by split<;>rfl) ?_ mem;by_cases h:0<=Lib.indexByte s c
 .simp[ad,Z,f137,ai,fj,H,h]
 .simp[ad,Z,f137,ai,fj,H,h]
theorem zN(s p:List UInt8)(mem:Mem):bz prog 263 [.str s,.str p] mem (.tuple [.str (Lib.trimPrefix s p),.bool (Lib.hasPrefix s p)]) mem:=by
 have X:bq prog 263=some f263:=by kernel_rfl
 refine az ib ?_ mem;cases h:Lib.hasPrefix s p with
 |false=>simp[ad,X,f263,ai,fj,h,Lib.trimPrefix]
 |true=>
  have Z:p.length<=s.length:=(List.isPrefixOf_iff_prefix.1 h).length_le;simp[ad,X,f263,ai,fj,h,Lib.trimPrefix,Z];rw[An (by simp)]
theorem xM(s p:List UInt8)(mem:Mem):bz prog 264 [.str s,.str p] mem (.str (Lib.trimPrefix s p)) mem:=by
 have X:bq prog 264=some f264:=by kernel_rfl
 refine az ib ?_ mem;cases h:Lib.hasPrefix s p with
 |false=>simp[ad,X,f264,ai,fj,h,Lib.trimPrefix]
 |true=>
  have Z:p.length<=s.length:=(List.isPrefixOf_iff_prefix.1 h).length_le;simp[ad,X,f264,ai,fj,h,Lib.trimPrefix,Z];rw[An (by simp)]
end Go.Proofs
namespace Go.Proofs
open Go.Eng Go.Shelf
open Tryz
def xZ:Go.Shelf.Ren:=⟨fun | 171=>152 | 243=>233 | 246=>272 | 283=>290 | 284=>291 | 285=>292 | 286=>293 | 129=>302 | 317=>301 | 318=>303 | 319=>304 | 320=>305 | 337=>308 | 338=>309 | n=>n,fun | 3=>3 | 9=>9 | 2=>2 | 4=>4 | 171=>327 | 0=>0 | 53=>293 | 37=>298 | 5=>5 | 173=>330 | 212=>344 | 51=>336 | 20=>20 | 213=>345 | 46=>320 | 232=>355 | 233=>356 | n=>n,fun | 17=>3 | 18=>4 | 19=>5 | n=>n⟩
theorem GG:Go.Proofs.LaysM.n171 prog xZ:={
 mixed:=by kernel_rfl
 f129:=func302.trans (congrArg some (by kernel_rfl))
 f171:=func152.trans (congrArg some (by kernel_rfl))
 f243:=func233.trans (congrArg some (by kernel_rfl))
 f246:=func272.trans (congrArg some (by kernel_rfl))
 f283:=func290.trans (congrArg some (by kernel_rfl))
 f284:=func291.trans (congrArg some (by kernel_rfl))
 f285:=func292.trans (congrArg some (by kernel_rfl))
 f286:=func293.trans (congrArg some (by kernel_rfl))
 f317:=func301.trans (congrArg some (by kernel_rfl))
 f318:=func303.trans (congrArg some (by kernel_rfl))
 f319:=func304.trans (congrArg some (by kernel_rfl))
 f320:=func305.trans (congrArg some (by kernel_rfl))
 f337:=func308.trans (congrArg some (by kernel_rfl))
 f338:=func309.trans (congrArg some (by kernel_rfl))
 t0:=underlying0
 a0:=isAgg0
 z0:=sizeOf0
 v0:=zeroValue0
 t2:=underlying2
 a2:=isAgg2
 z2:=sizeOf2
 v2:=zeroValue2
 t3:=underlying3
 a3:=isAgg3
 z3:=sizeOf3
 v3:=zeroValue3
 t4:=underlying4
 a4:=isAgg4
 z4:=sizeOf4
 v4:=zeroValue4
 t5:=underlying5
 a5:=isAgg5
 z5:=sizeOf5
 v5:=zeroValue5
 t9:=underlying9
 a9:=isAgg9
 z9:=sizeOf9
 v9:=zeroValue9
 t20:=underlying20
 a20:=isAgg20
 z20:=sizeOf20
 v20:=zeroValue20
 t37:=underlying298
 a37:=isAgg298
 z37:=sizeOf298
 v37:=zeroValue298
 t46:=underlying320
 a46:=isAgg320
 z46:=sizeOf320
 v46:=zeroValue320
 t51:=underlying336
 a51:=isAgg336
 z51:=sizeOf336
 v51:=zeroValue336
 t53:=underlying293
 a53:=isAgg293
 z53:=sizeOf293
 v53:=zeroValue293
 t171:=underlying327
 a171:=isAgg327
 z171:=sizeOf327
 v171:=zeroValue327
 t173:=underlying330
 a173:=isAgg330
 z173:=sizeOf330
 v173:=zeroValue330
 t212:=underlying344
 a212:=isAgg344
 z212:=sizeOf344
 v212:=zeroValue344
 t213:=underlying345
 a213:=isAgg345
 z213:=sizeOf345
 t232:=underlying355
 a232:=isAgg355
 z232:=sizeOf355
 v232:=zeroValue355
 t233:=underlying356
 a233:=isAgg356
 z233:=sizeOf356
 v233:=zeroValue356
 g17:=by kernel_rfl
 g18:=by kernel_rfl
 g19:=by kernel_rfl
 i0:=by kernel_rfl
 i2:=by kernel_rfl
 i3:=by kernel_rfl
 i4:=by kernel_rfl
 i5:=by kernel_rfl
 i9:=by kernel_rfl
 i20:=by kernel_rfl
 i37:=by kernel_rfl
 i46:=by kernel_rfl
 i51:=by kernel_rfl
 i53:=by kernel_rfl
 i171:=by kernel_rfl
 i173:=by kernel_rfl
 i212:=by kernel_rfl
 i232:=by kernel_rfl
 i233:=by kernel_rfl
 m17:=by kernel_rfl
 m18:=by kernel_rfl
 m19:=by kernel_rfl }
def xY:Go.Shelf.Ren:=⟨fun | 172=>231 | 244=>270 | 245=>271 | 247=>285 | 279=>286 | 280=>287 | 281=>288 | 282=>289 | 287=>277 | 316=>299 | 171=>152 | 205=>300 | 321=>295 | 322=>296 | 243=>233 | 246=>272 | 283=>290 | 284=>291 | 285=>292 | 286=>293 | 129=>302 | 317=>301 | 318=>303 | 319=>304 | 320=>305 | 337=>308 | 338=>309 | n=>n,fun | 9=>9 | 3=>3 | 75=>272 | 76=>273 | 4=>4 | 5=>5 | 167=>321 | 37=>298 | 0=>0 | 85=>322 | 2=>2 | 168=>324 | 53=>293 | 175=>294 | 46=>320 | 210=>341 | 127=>318 | 145=>353 | 143=>351 | 21=>21 | 171=>327 | 173=>330 | 212=>344 | 51=>336 | 20=>20 | 213=>345 | 232=>355 | 233=>356 | 80=>306 | n=>n,fun | 15=>1 | 16=>2 | 17=>3 | 18=>4 | 19=>5 | n=>n⟩
theorem GF:Go.Proofs.Lays.n172 prog xY:={
 mixed:=by kernel_rfl
 f129:=func302.trans (congrArg some (by kernel_rfl))
 f171:=func152.trans (congrArg some (by kernel_rfl))
 f172:=func231.trans (congrArg some (by kernel_rfl))
 f205:=func300.trans (congrArg some (by kernel_rfl))
 f243:=func233.trans (congrArg some (by kernel_rfl))
 f244:=func270.trans (congrArg some (by kernel_rfl))
 f245:=func271.trans (congrArg some (by kernel_rfl))
 f246:=func272.trans (congrArg some (by kernel_rfl))
 f247:=func285.trans (congrArg some (by kernel_rfl))
 f279:=func286.trans (congrArg some (by kernel_rfl))
 f280:=func287.trans (congrArg some (by kernel_rfl))
 f281:=func288.trans (congrArg some (by kernel_rfl))
 f282:=func289.trans (congrArg some (by kernel_rfl))
 f283:=func290.trans (congrArg some (by kernel_rfl))
 f284:=func291.trans (congrArg some (by kernel_rfl))
 f285:=func292.trans (congrArg some (by kernel_rfl))
 f286:=func293.trans (congrArg some (by kernel_rfl))
 f287:=func277.trans (congrArg some (by kernel_rfl))
 f316:=func299.trans (congrArg some (by kernel_rfl))
 f317:=func301.trans (congrArg some (by kernel_rfl))
 f318:=func303.trans (congrArg some (by kernel_rfl))
 f319:=func304.trans (congrArg some (by kernel_rfl))
 f320:=func305.trans (congrArg some (by kernel_rfl))
 f321:=func295.trans (congrArg some (by kernel_rfl))
 f322:=func296.trans (congrArg some (by kernel_rfl))
 f337:=func308.trans (congrArg some (by kernel_rfl))
 f338:=func309.trans (congrArg some (by kernel_rfl))
 t0:=underlying0
 a0:=isAgg0
 z0:=sizeOf0
 v0:=zeroValue0
 t2:=underlying2
 a2:=isAgg2
 z2:=sizeOf2
 v2:=zeroValue2
 t3:=underlying3
 a3:=isAgg3
 z3:=sizeOf3
 v3:=zeroValue3
 t4:=underlying4
 a4:=isAgg4
 z4:=sizeOf4
 v4:=zeroValue4
 t5:=underlying5
 a5:=isAgg5
 z5:=sizeOf5
 v5:=zeroValue5
 t9:=underlying9
 a9:=isAgg9
 z9:=sizeOf9
 v9:=zeroValue9
 t20:=underlying20
 a20:=isAgg20
 z20:=sizeOf20
 v20:=zeroValue20
 t21:=underlying21
 a21:=isAgg21
 z21:=sizeOf21
 v21:=zeroValue21
 t37:=underlying298
 a37:=isAgg298
 z37:=sizeOf298
 v37:=zeroValue298
 t46:=underlying320
 a46:=isAgg320
 z46:=sizeOf320
 v46:=zeroValue320
 t51:=underlying336
 a51:=isAgg336
 z51:=sizeOf336
 v51:=zeroValue336
 t53:=underlying293
 a53:=isAgg293
 z53:=sizeOf293
 v53:=zeroValue293
 t75:=underlying272
 a75:=isAgg272
 z75:=sizeOf272
 v75:=zeroValue272
 t76:=underlying273
 a76:=isAgg273
 z76:=sizeOf273
 v76:=zeroValue273
 t85:=underlying322
 a85:=isAgg322
 z85:=sizeOf322
 v85:=zeroValue322
 t127:=underlying318
 a127:=isAgg318
 z127:=sizeOf318
 v127:=zeroValue318
 t143:=underlying351
 a143:=isAgg351
 z143:=sizeOf351
 v143:=zeroValue351
 t145:=underlying353
 a145:=isAgg353
 z145:=sizeOf353
 v145:=zeroValue353
 t167:=underlying321
 a167:=isAgg321
 z167:=sizeOf321
 v167:=zeroValue321
 t168:=underlying324
 a168:=isAgg324
 z168:=sizeOf324
 v168:=zeroValue324
 t171:=underlying327
 a171:=isAgg327
 z171:=sizeOf327
 v171:=zeroValue327
 t173:=underlying330
 a173:=isAgg330
 z173:=sizeOf330
 v173:=zeroValue330
 t175:=underlying294
 a175:=isAgg294
 z175:=sizeOf294
 v175:=zeroValue294
 t210:=underlying341
 a210:=isAgg341
 z210:=sizeOf341
 v210:=zeroValue341
 t212:=underlying344
 a212:=isAgg344
 z212:=sizeOf344
 v212:=zeroValue344
 t213:=underlying345
 a213:=isAgg345
 z213:=sizeOf345
 t232:=underlying355
 a232:=isAgg355
 z232:=sizeOf355
 v232:=zeroValue355
 t233:=underlying356
 a233:=isAgg356
 z233:=sizeOf356
 v233:=zeroValue356
 g15:=by kernel_rfl
 g16:=by kernel_rfl
 g17:=by kernel_rfl
 g18:=by kernel_rfl
 g19:=by kernel_rfl }
theorem nV(w:World)(e:TypeId)(s:ByteArray):afZ w (Lib.bytesWorld w e s):=
 ⟨by rw[Lib.bytesWorld_size];omega,fun k Z=>Lib.bytesWorld_at_old w e s k Z,rfl,rfl,rfl,by first | exact Es _ | exact Nat.le_add_right _ _ | exact Nat.le_succ _⟩
theorem PB(n:Int)(h0: -9223372036854775808<=n)(h1:n<=9223372036854775807)(mem:Mem):bz prog 152 [.int .i64 n] mem (.str (bH n)) mem:=
 bz.aga (ic _ func152 (by kernel_rfl) (by kernel_rfl)) (Vs:=[.int .i64 n]) (fun μ n Us h=>by simpa [afy,afx] using h) (V:=.string ⟨(bH n).toArray⟩) (fun μ n=>by simp[afx])
  (fun Z w X=>(Any.strconv_Itoa GG n h0 h1 w (X.ahC (by kernel_rfl))).mono fun e w' ⟨h1,k,os,h2⟩=>⟨by rw[h1,Ur],h2▸afZ.grow w k os⟩) mem
theorem Pl(s:List UInt8)(n:Int)(H:s.length<=18)(h:Lib.atoi s=some n)(mem:Mem):bz prog 231 [.str s] mem (.tuple [.int .i64 n,.nilIface]) mem:=
 bz.aga (ic _ func231 (by kernel_rfl) (by kernel_rfl)) (Vs:=[.string ⟨s.toArray⟩]) (fun μ n Us h=>by simpa [afy,afx] using h) (V:=.tuple #[.int .i64 n,.nilIface]) (fun μ n=>by simp only[afx,afy];exact⟨_,rfl,_,_,rfl,rfl,_,_,rfl,rfl,rfl⟩)
  (fun Z w X=>(Any.strconv_Atoi GF ⟨s.toArray⟩ n (by simpa [ByteArray.size] using H) (by simpa using h) w).mono fun e w' ⟨h1,t,h2⟩=>⟨h1,by rw[h2];exact nV _ _ _⟩) mem
end Go.Proofs
namespace Go.Proofs
open Go.Eng
open Tryz
noncomputable def oU(f:FuncId)(args:List AV):Option AV:=
 match f,args with
 |263,[.str s,.str p]=>some (.tuple [.str (Lib.trimPrefix s p),.bool (Lib.hasPrefix s p)])
 |264,[.str s,.str p]=>some (.str (Lib.trimPrefix s p))
 |_,_=>none
theorem vU:afs prog (ai oU):=bT fun f Z v h mem=>by
 unfold oU at h;split at h
 .cases h;exact zN _ _ mem
 .cases h;exact xM _ _ mem
 .cases h
theorem Bi(s p:List UInt8)(mem:Mem):bz prog 220 [.str s,.str p] mem (.tuple [.str (Lib.trimPrefix s p),.bool (Lib.hasPrefix s p)]) mem:=by
 have Z:bq prog 220=some f220:=by kernel_rfl
 refine az vU ?_ mem;simp[ad,Z,f220,ai,oU]
theorem zW(s p:List UInt8)(mem:Mem):bz prog 221 [.str s,.str p] mem (.str (Lib.trimPrefix s p)) mem:=by
 have Z:bq prog 221=some f221:=by kernel_rfl
 refine az vU ?_ mem;simp[ad,Z,f221,ai,oU]
def ef(n:Int):Bool:=decide (-9223372036854775808<=n)&&decide (n<=9223372036854775807)
noncomputable def an(f:FuncId)(args:List AV):Option AV:=
 match f,args with
 |251,[.str s,.str p]=>some (.bool (Lib.hasPrefix s p))
 |222,[.str s,.str p]=>some (.int .i64 (Lib.compareBytes s p))
 |104,[.str s,.int .u8 c]=>if 0<=c then some (.int .i64 (Lib.indexByte s c.toNat.toUInt8)) else none
 |137,[.str s,.str [c]]=>if s.length<=1000000000 then some (if 0<=Lib.indexByte s c then .tuple [.str (s.take (Lib.indexByte s c).toNat),.str (s.drop ((Lib.indexByte s c).toNat+1)),.bool true] else .tuple [.str s,.str [],.bool false]) else none
 |220,[.str s,.str p]=>some (.tuple [.str (Lib.trimPrefix s p),.bool (Lib.hasPrefix s p)])
 |221,[.str s,.str p]=>some (.str (Lib.trimPrefix s p))
 |152,[.int .i64 n]=>if ef n then some (.str (bH n)) else none
 |231,[.str s]=>if s.length<=18 then match Lib.atoi s with
  |some n=>some (.tuple [.int .i64 n,.nilIface])
  |none=>none
  else none
 |_,_=>none
theorem ep:afs prog (ai an):=bT fun f V v h mem=>by
 unfold an at h;split at h
 .cases h;exact Bk _ _ mem
 .cases h;exact FO _ _ mem
 .split at h
  next U=>cases h;exact zR _ _ U mem
  .cases h
 .split at h
  next X=>cases h;exact R3 _ _ mem X
  .cases h
 .cases h;exact Bi _ _ mem
 .cases h;exact zW _ _ mem
 .split at h
  .rename_i Z
   cases h;simp only[ef,Ar,Cs] at Z;exact PB _ Z.1 Z.2 mem
  .cases h
 .split at h
  .rename_i X
   split at h
   next n Z=>cases h;exact Pl _ _ X Z mem
   .cases h
  .cases h
 .cases h
end Go.Proofs
