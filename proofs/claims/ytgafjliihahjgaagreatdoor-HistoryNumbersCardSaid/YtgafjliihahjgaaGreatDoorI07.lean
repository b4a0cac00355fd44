/- See I36. -/
import Derived.Test.YtgafjliihahjgaaGreatDoorI06
import Derived.Test.YtgafjliihahjgaaGreatDoorProg
import Derived.KernelRfl
import Derived.Lib.Slices
import Derived.Lib.Walk
import Derived.Shelf.Strconv.Itoa3
import Derived.Shelf.Strconv.Atoi
import Derived.Ground.NamesProg
set_option linter.all false
set_option maxRecDepth 100000
set_option maxHeartbeats 40000000
namespace Go.Proofs
open Go.Eng
open Tryz
theorem ae:prog.follows .mixedOrders=true:=by kernel_rfl
theorem mX(a b:ByteArray)(w:World):
  Calls prog 220 #[.string a,.string b] w fun e w' =>e=.returned (.int .i64 (Lib.compareBytes a.data.toList b.data.toList))/\w' =w:=by
 go_enter func220,ntmps220
 go_wp2
 rw[run_callFunc_extern func263 (by kernel_rfl) (by kernel_rfl) (by kernel_rfl) (e:=Extern.BytealgCompare.compare) (by kernel_rfl),Lib.run_compareString];simp only[Result.andThen];rw[Oper.upon_value]
 go_wp2
 go_ret
 exact⟨rfl,rfl⟩
theorem iV(s:ByteArray)(c:Int)(w:World):
  Calls prog 257 #[.string s,.int .u8 c] w fun e w' =>e=.returned (.int .i64 (Lib.indexByte s.data.toList c.toNat.toUInt8))/\w' =w:=by
 go_enter func257,ntmps257
 go_wp2
 rw[run_callFunc_extern func285 (by kernel_rfl) (by kernel_rfl) (by kernel_rfl) (e:=Extern.BytealgIndexByte.indexByte) (by kernel_rfl),Lib.run_indexByteString];simp only[Result.andThen];rw[Oper.upon_value]
 go_wp2
 go_ret
 exact⟨rfl,rfl⟩
theorem mY(s:ByteArray)(c:UInt8)(w:World):
  Calls prog 216 #[.string s,.string ⟨#[c]⟩] w fun e w' =>e=.returned (.int .i64 (Lib.indexByte s.data.toList c))/\w' =w:=by
 go_enter func216,ntmps216
 go_wp2_with (go_at_call 257;refine(iV _ _ _).mono ?_;rintro e w' ⟨rfl,rfl⟩)
 .have h:([c]==s.toList)=true:=by assumption
  go_ret
  refine⟨?_,rfl⟩;have e:s.data.toList=[c]:=by rw[<-Lib.toList_data];exact(beq_iff_eq.1 h).symm
  rw[e];simp[Lib.indexByte]
 .go_ret
  exact⟨rfl,rfl⟩
theorem iL(f:FuncId){fn:Func}(h:prog.funcs[f]? =some fn)(y:fn.body.isSome=true)(H:(fn.name == "runtime.NumGoroutine")=false):V2 prog f:=⟨fn,h,y,H⟩
theorem mw(a b:List UInt8)(mem:Mem):kO prog 220 [.str a,.str b] mem (.int .i64 (Lib.compareBytes a b)) mem:=
 kO.agG (iL _ func220 (by kernel_rfl) (by kernel_rfl)) (Vs:=[.string ⟨a.toArray⟩,.string ⟨b.toArray⟩]) (fun μ n Us h=>by simpa [af5,af4] using h) (V:=.int .i64 (Lib.compareBytes a b)) (fun μ n=>by simp[af4])
  (fun Z w _=>(mX ⟨a.toArray⟩ ⟨b.toArray⟩ w).mono fun e w' ⟨h1,h2⟩=>⟨h1,h2▸agx.refl w⟩) mem
theorem re(s:List UInt8)(c:Nat)(mem:Mem):kO prog 257 [.str s,.int .u8 c] mem (.int .i64 (Lib.indexByte s c.toUInt8)) mem:=
 kO.agG (iL _ func257 (by kernel_rfl) (by kernel_rfl)) (Vs:=[.string ⟨s.toArray⟩,.int .u8 c]) (fun μ n Us h=>by simpa [af5,af4] using h) (V:=.int .i64 (Lib.indexByte s c.toUInt8)) (fun μ n=>by simp[af4])
  (fun Z w _=>(iV ⟨s.toArray⟩ c w).mono fun e w' ⟨h1,h2⟩=>⟨by simpa using h1,h2▸agx.refl w⟩) mem
theorem Eu(s:List UInt8)(c:UInt8)(mem:Mem):kO prog 216 [.str s,.str [c]] mem (.int .i64 (Lib.indexByte s c)) mem:=
 kO.agG (iL _ func216 (by kernel_rfl) (by kernel_rfl)) (Vs:=[.string ⟨s.toArray⟩,.string ⟨#[c]⟩]) (fun μ n Us h=>by simpa [af5,af4] using h) (V:=.int .i64 (Lib.indexByte s c)) (fun μ n=>by simp[af4])
  (fun Z w _=>(mY ⟨s.toArray⟩ c w).mono fun e w' ⟨h1,h2⟩=>⟨h1,h2▸agx.refl w⟩) mem
theorem ON:aU prog 3=some ⟨.int .i64,1,8,.int .i64 0,true⟩:=by kernel_rfl
theorem Ya:aU prog 4=some ⟨.bool,1,1,.bool false,true⟩:=by kernel_rfl
theorem Yb:aU prog 5=some ⟨.int .u8,1,1,.int .u8 0,true⟩:=by kernel_rfl
theorem Yc:aU prog 9=some ⟨.string,1,16,.string ⟨#[]⟩,true⟩:=by kernel_rfl
theorem Wd:aU prog 22=some ⟨.int .i8,1,1,.int .i8 0,true⟩:=by kernel_rfl
theorem Wg:aU prog 26=some ⟨.slice 94,1,24,.slice none 0 0,true⟩:=by kernel_rfl
theorem Wi:aU prog 29=some ⟨.string,1,16,.string ⟨#[]⟩,true⟩:=by kernel_rfl
theorem Wk:aU prog 34=some ⟨.slice 101,1,24,.slice none 0 0,true⟩:=by kernel_rfl
theorem Wl:aU prog 35=some ⟨.slice 148,1,24,.slice none 0 0,true⟩:=by kernel_rfl
theorem Wn:aU prog 38=some ⟨.slice 83,1,24,.slice none 0 0,true⟩:=by kernel_rfl
theorem Wp:aU prog 45=some ⟨.slice 3,1,24,.slice none 0 0,true⟩:=by kernel_rfl
theorem Wt:aU prog 57=some ⟨.slice 9,1,24,.slice none 0 0,true⟩:=by kernel_rfl
theorem Wu:aU prog 65=some ⟨.slice 29,1,24,.slice none 0 0,true⟩:=by kernel_rfl
theorem Wv:aU prog 66=some ⟨.slice 29,1,24,.slice none 0 0,true⟩:=by kernel_rfl
theorem Ww:aU prog 67=some ⟨.slice 66,1,24,.slice none 0 0,true⟩:=by kernel_rfl
theorem WA:aU prog 74=some ⟨.slice 124,1,24,.slice none 0 0,true⟩:=by kernel_rfl
theorem TZ:aU prog 116=some ⟨.slice 119,1,24,.slice none 0 0,true⟩:=by kernel_rfl
theorem T1:aU prog 125=some ⟨.slice 79,1,24,.slice none 0 0,true⟩:=by kernel_rfl
theorem T2:aU prog 139=some ⟨.string,1,16,.string ⟨#[]⟩,true⟩:=by kernel_rfl
theorem T6:aU prog 173=some ⟨.slice 31,1,24,.slice none 0 0,true⟩:=by kernel_rfl
theorem T7:aU prog 193=some ⟨.map 101 4,1,8,.map none,true⟩:=by kernel_rfl
theorem T8:aU prog 198=some ⟨.slice 5,1,24,.slice none 0 0,true⟩:=by kernel_rfl
theorem Ub:aU prog 232=some ⟨.slice 280,1,24,.slice none 0 0,true⟩:=by kernel_rfl
theorem LW:aU prog 252=some ⟨.map 119 3,1,8,.map none,true⟩:=by kernel_rfl
theorem LX:aU prog 255=some ⟨.map 3 4,1,8,.map none,true⟩:=by kernel_rfl
theorem Ud:aU prog 280=some ⟨.int .u64,1,8,.int .u64 0,true⟩:=by kernel_rfl
theorem Ue:aU prog 289=some ⟨.pointer 291,1,8,.pointer none,true⟩:=by kernel_rfl
theorem Ug:aU prog 302=some ⟨.map 3 3,1,8,.map none,true⟩:=by kernel_rfl
theorem Uh:aU prog 324=some ⟨.pointer 5,1,8,.pointer none,true⟩:=by kernel_rfl
attribute [simp] ON Ya Yb Yc Wd Wg Wi Wk Wl Wn
attribute [simp] Wp Wt Wu Wv Ww WA TZ T1 T2 T6 T7 T8 Ub LW LX Ud Ue Ug
attribute [simp] Uh
noncomputable def tK(f:FuncId)(args:List AV):Option AV:=
 match f,args with
 |220,[.str a,.str b]=>some (.int .i64 (Lib.compareBytes a b))
 |257,[.str s,.int .u8 c]=>if 0<=c then some (.int .i64 (Lib.indexByte s c.toNat.toUInt8)) else none
 |216,[.str s,.str [c]]=>some (.int .i64 (Lib.indexByte s c))
 |_,_=>none
theorem Jc:adM prog (af tK):=bX fun f Z v h mem=>by
 unfold tK at h;split at h
 .cases h;exact mw _ _ mem
 .split at h
  .rename_i c hc
   cases h;have e:c=((c.toNat:Nat):Int):=by omega
   have:=re ‹List UInt8› c.toNat mem;rw[<-e] at this;exact this
  .cases h
 .cases h;exact Eu _ _ mem
 .cases h
variable{K:Nat}{O:af3}{args:List AV}{f:FuncId}{lv:Code->List Nat}{v:AV}
theorem dv(y:adM prog O)(H:AV.af9 args=true)(I:v.closed=true)(h:aa (aU prog) lv (aS prog) O K f args []=some ⟨v,none,[]⟩)(mem:Mem):kO prog f args mem v mem:=
 kO.aio ae (al _) y (ao _) H I h mem
variable{mem:Mem}
section
variable (hO:adM prog O)
include hO
theorem TX{new:Mem}(h:aa (aU prog) lv (aS prog) O K f args mem=some ⟨v,none,new⟩):kO prog f args mem v (mem++new):=
 (ah ae (al _) hO (ao _) h).1
theorem dx(h:aa (aU prog) lv (aS prog) O K f args mem=some ⟨v,none,[]⟩):kO prog f args mem v mem:=by simpa using TX hO h
theorem fM(h:aa (aU prog) (fun _=>[]) (aS prog) O 1 f args mem=some ⟨v,none,[]⟩):kO prog f args mem v mem:=dx hO h
theorem aD(h:aa (aU prog) (fun _=>[]) (aS prog) O 1 f args []=some ⟨v,none,[]⟩)(mem:Mem)(y:AV.af9 args=true:=by rfl)(Z:v.closed=true:=by rfl):kO prog f args mem v mem:=dv hO y Z h mem
end
theorem K7:aS prog 262=some f262:=by kernel_rfl
theorem As(s p:List UInt8)(mem:Mem):kO prog 262 [.str s,.str p] mem (.bool (Lib.hasPrefix s p)) mem:=by
 refine aD (aj _) ?_ mem;rw[<-Lib.hasPrefix_of_take];by_cases h:p.length<=s.length
 .simp[aa,K7,f262,h]
 .simp[aa,K7,f262,h]
theorem K6:aS prog 141=some f141:=by kernel_rfl
theorem yJ{s:List UInt8}{c:UInt8}{i:Nat}(h:Lib.indexByte s c=i):i<s.length:=by have:=(Lib.indexByte_some h).1;exact(gL this)
theorem QP(s:List UInt8)(c:UInt8)(mem:Mem)(y:s.length<=1000000000):kO prog 141 [.str s,.str [c]] mem (if 0<=Lib.indexByte s c then .tuple [.str (s.take (Lib.indexByte s c).toNat),.str (s.drop ((Lib.indexByte s c).toNat+1)),.bool true] else .tuple [.str s,.str [],.bool false]) mem:=by
 refine dv Jc (lv:=fun _=>[]) (K:=1) rfl (by split<;>rfl) ?_ mem;by_cases h:0<=Lib.indexByte s c
 .obtain⟨i,Z⟩:∃i:Nat,Lib.indexByte s c=i:=⟨_,(QQe h).symm⟩
  have M:=yJ Z;have X:(i:Int)<=s.length:=by omega
  have W:IntKind.i64.wrap ((i:Int)+1)=(i:Int)+1:=ai;have h3:(i:Int)+1<=s.length:=by omega
  have V:((i:Int)+1).toNat=i+1:=by omega
  have S:(0:Int)<=(i:Int)+1:=by omega
  simp[aa,K6,f141,Z,af,tK,X,W,h3,V,S];rw[GE (by simp)]
 .simp[aa,K6,f141,h,af,tK]
noncomputable def fL(f:FuncId)(args:List AV):Option AV:=
 match f,args with
 |220,[.str a,.str b]=>some (.int .i64 (Lib.compareBytes a b))
 |257,[.str s,.int .u8 c]=>if 0<=c then some (.int .i64 (Lib.indexByte s c.toNat.toUInt8)) else none
 |262,[.str s,.str p]=>some (.bool (Lib.hasPrefix s p))
 |141,[.str s,.str [c]]=>if s.length<=1000000000 then some (if 0<=Lib.indexByte s c then .tuple [.str (s.take (Lib.indexByte s c).toNat),.str (s.drop ((Lib.indexByte s c).toNat+1)),.bool true] else .tuple [.str s,.str [],.bool false]) else none
 |_,_=>none
theorem iK:adM prog (af fL):=bX fun f args v h mem=>by
 unfold fL at h;split at h
 .cases h;exact mw _ _ mem
 .split at h
  .rename_i c hc
   cases h;have e:c=((c.toNat:Nat):Int):=by omega
   have:=re ‹List UInt8› c.toNat mem;rw[<-e] at this;exact this
  .cases h
 .cases h;exact As _ _ mem
 .split at h
  next Z=>cases h;exact QP _ _ mem Z
  .cases h
 .cases h
theorem BU(s p:List UInt8)(mem:Mem):kO prog 218 [.str s,.str p] mem (.bool (Lib.hasPrefix s p)) mem:=by
 have Z:aS prog 218=some f218:=by kernel_rfl
 refine aD iK ?_ mem;simp[aa,Z,f218,af,fL]
theorem Gx(s p:List UInt8)(mem:Mem):kO prog 145 [.str s,.str p] mem (.int .i64 (Lib.compareBytes s p)) mem:=by
 have Z:aS prog 145=some f145:=by kernel_rfl
 refine aD iK ?_ mem;simp[aa,Z,f145,af,fL]
theorem At(s:List UInt8)(c:Int)(hc:0<=c)(mem:Mem):kO prog 209 [.str s,.int .u8 c] mem (.int .i64 (Lib.indexByte s c.toNat.toUInt8)) mem:=by
 have Z:aS prog 209=some f209:=by kernel_rfl
 refine aD iK ?_ mem;simp[aa,Z,f209,af,fL,hc]
theorem Ts(s:List UInt8)(c:UInt8)(mem:Mem)(y:s.length<=1000000000):kO prog 93 [.str s,.str [c]] mem (if 0<=Lib.indexByte s c then .tuple [.str (s.take (Lib.indexByte s c).toNat),.str (s.drop ((Lib.indexByte s c).toNat+1)),.bool true] else .tuple [.str s,.str [],.bool false]) mem:=by
 have Z:aS prog 93=some f93:=by kernel_rfl
 refine dv iK (lv:=fun _=>[]) (K:=1) rfl (by split<;>rfl) ?_ mem;by_cases h:0<=Lib.indexByte s c
 .simp[aa,Z,f93,af,fL,y,h]
 .simp[aa,Z,f93,af,fL,y,h]
theorem An(s p:List UInt8)(mem:Mem):kO prog 217 [.str s,.str p] mem (.tuple [.str (Lib.trimPrefix s p),.bool (Lib.hasPrefix s p)]) mem:=by
 have X:aS prog 217=some f217:=by kernel_rfl
 refine aD iK ?_ mem;cases h:Lib.hasPrefix s p with
 |false=>simp[aa,X,f217,af,fL,h,Lib.trimPrefix]
 |true=>
  have Z:p.length<=s.length:=(List.isPrefixOf_iff_prefix.1 h).length_le;simp[aa,X,f217,af,fL,h,Lib.trimPrefix,Z];rw[GE (by simp)]
theorem yz(s p:List UInt8)(mem:Mem):kO prog 219 [.str s,.str p] mem (.str (Lib.trimPrefix s p)) mem:=by
 have X:aS prog 219=some f219:=by kernel_rfl
 refine aD iK ?_ mem;cases h:Lib.hasPrefix s p with
 |false=>simp[aa,X,f219,af,fL,h,Lib.trimPrefix]
 |true=>
  have Z:p.length<=s.length:=(List.isPrefixOf_iff_prefix.1 h).length_le;simp[aa,X,f219,af,fL,h,Lib.trimPrefix,Z];rw[GE (by simp)]
end Go.Proofs
namespace Go.Proofs
open Go.Eng Go.Shelf
open Tryz
def yL:Go.Shelf.Ren:=⟨fun | 171=>104 | 243=>158 | 246=>236 | 283=>273 | 284=>274 | 285=>275 | 286=>276 | 129=>293 | 317=>292 | 318=>294 | 319=>295 | 320=>296 | 337=>299 | 338=>300 | n=>n,fun | 3=>3 | 9=>9 | 2=>2 | 4=>4 | 171=>331 | 0=>0 | 53=>280 | 37=>198 | 5=>5 | 173=>334 | 212=>354 | 51=>343 | 20=>20 | 213=>355 | 46=>322 | 232=>367 | 233=>368 | n=>n,fun | 17=>3 | 18=>4 | 19=>5 | n=>n⟩
theorem Hp:Go.Proofs.LaysM.n171 prog yL:={
 mixed:=by kernel_rfl
 f129:=func293.trans (congrArg some (by kernel_rfl))
 f171:=func104.trans (congrArg some (by kernel_rfl))
 f243:=func158.trans (congrArg some (by kernel_rfl))
 f246:=func236.trans (congrArg some (by kernel_rfl))
 f283:=func273.trans (congrArg some (by kernel_rfl))
 f284:=func274.trans (congrArg some (by kernel_rfl))
 f285:=func275.trans (congrArg some (by kernel_rfl))
 f286:=func276.trans (congrArg some (by kernel_rfl))
 f317:=func292.trans (congrArg some (by kernel_rfl))
 f318:=func294.trans (congrArg some (by kernel_rfl))
 f319:=func295.trans (congrArg some (by kernel_rfl))
 f320:=func296.trans (congrArg some (by kernel_rfl))
 f337:=func299.trans (congrArg some (by kernel_rfl))
 f338:=func300.trans (congrArg some (by kernel_rfl))
 t0:=underlying0
 a0:=isAgg0
 z0:=sizeOf0
 v0:=zeroValue0
 t2:=underlying2
 a2:=isAgg2
 z2:=sizeOf2
 v2:=zeroValue2
 t3:=underlying3
 a3:=isAgg3
 z3:=sizeOf3
 v3:=zeroValue3
 t4:=underlying4
 a4:=isAgg4
 z4:=sizeOf4
 v4:=zeroValue4
 t5:=underlying5
 a5:=isAgg5
 z5:=sizeOf5
 v5:=zeroValue5
 t9:=underlying9
 a9:=isAgg9
 z9:=sizeOf9
 v9:=zeroValue9
 t20:=underlying20
 a20:=isAgg20
 z20:=sizeOf20
 v20:=zeroValue20
 t37:=underlying198
 a37:=isAgg198
 z37:=sizeOf198
 v37:=zeroValue198
 t46:=underlying322
 a46:=isAgg322
 z46:=sizeOf322
 v46:=zeroValue322
 t51:=underlying343
 a51:=isAgg343
 z51:=sizeOf343
 v51:=zeroValue343
 t53:=underlying280
 a53:=isAgg280
 z53:=sizeOf280
 v53:=zeroValue280
 t171:=underlying331
 a171:=isAgg331
 z171:=sizeOf331
 v171:=zeroValue331
 t173:=underlying334
 a173:=isAgg334
 z173:=sizeOf334
 v173:=zeroValue334
 t212:=underlying354
 a212:=isAgg354
 z212:=sizeOf354
 v212:=zeroValue354
 t213:=underlying355
 a213:=isAgg355
 z213:=sizeOf355
 t232:=underlying367
 a232:=isAgg367
 z232:=sizeOf367
 v232:=zeroValue367
 t233:=underlying368
 a233:=isAgg368
 z233:=sizeOf368
 v233:=zeroValue368
 g17:=by kernel_rfl
 g18:=by kernel_rfl
 g19:=by kernel_rfl
 i0:=by kernel_rfl
 i2:=by kernel_rfl
 i3:=by kernel_rfl
 i4:=by kernel_rfl
 i5:=by kernel_rfl
 i9:=by kernel_rfl
 i20:=by kernel_rfl
 i37:=by kernel_rfl
 i46:=by kernel_rfl
 i51:=by kernel_rfl
 i53:=by kernel_rfl
 i171:=by kernel_rfl
 i173:=by kernel_rfl
 i212:=by kernel_rfl
 i232:=by kernel_rfl
 i233:=by kernel_rfl
 m17:=by kernel_rfl
 m18:=by kernel_rfl
 m19:=by kernel_rfl }
def yK:Go.Shelf.Ren:=⟨fun | 172=>150 | 244=>231 | 245=>232 | 247=>268 | 279=>269 | 280=>270 | 281=>271 | 282=>272 | 287=>264 | 316=>290 | 171=>104 | 205=>291 | 321=>287 | 322=>288 | 243=>158 | 246=>236 | 283=>273 | 284=>274 | 285=>275 | 286=>276 | 129=>293 | 317=>292 | 318=>294 | 319=>295 | 320=>296 | 337=>299 | 338=>300 | n=>n,fun | 9=>9 | 3=>3 | 75=>240 | 76=>241 | 4=>4 | 5=>5 | 167=>325 | 37=>198 | 0=>0 | 85=>326 | 2=>2 | 168=>328 | 53=>280 | 175=>281 | 46=>322 | 210=>351 | 127=>324 | 145=>361 | 143=>359 | 21=>21 | 171=>331 | 173=>334 | 212=>354 | 51=>343 | 20=>20 | 213=>355 | 232=>367 | 233=>368 | 80=>294 | n=>n,fun | 15=>1 | 16=>2 | 17=>3 | 18=>4 | 19=>5 | n=>n⟩
theorem Ho:Go.Proofs.Lays.n172 prog yK:={
 mixed:=by kernel_rfl
 f129:=func293.trans (congrArg some (by kernel_rfl))
 f171:=func104.trans (congrArg some (by kernel_rfl))
 f172:=func150.trans (congrArg some (by kernel_rfl))
 f205:=func291.trans (congrArg some (by kernel_rfl))
 f243:=func158.trans (congrArg some (by kernel_rfl))
 f244:=func231.trans (congrArg some (by kernel_rfl))
 f245:=func232.trans (congrArg some (by kernel_rfl))
 f246:=func236.trans (congrArg some (by kernel_rfl))
 f247:=func268.trans (congrArg some (by kernel_rfl))
 f279:=func269.trans (congrArg some (by kernel_rfl))
 f280:=func270.trans (congrArg some (by kernel_rfl))
 f281:=func271.trans (congrArg some (by kernel_rfl))
 f282:=func272.trans (congrArg some (by kernel_rfl))
 f283:=func273.trans (congrArg some (by kernel_rfl))
 f284:=func274.trans (congrArg some (by kernel_rfl))
 f285:=func275.trans (congrArg some (by kernel_rfl))
 f286:=func276.trans (congrArg some (by kernel_rfl))
 f287:=func264.trans (congrArg some (by kernel_rfl))
 f316:=func290.trans (congrArg some (by kernel_rfl))
 f317:=func292.trans (congrArg some (by kernel_rfl))
 f318:=func294.trans (congrArg some (by kernel_rfl))
 f319:=func295.trans (congrArg some (by kernel_rfl))
 f320:=func296.trans (congrArg some (by kernel_rfl))
 f321:=func287.trans (congrArg some (by kernel_rfl))
 f322:=func288.trans (congrArg some (by kernel_rfl))
 f337:=func299.trans (congrArg some (by kernel_rfl))
 f338:=func300.trans (congrArg some (by kernel_rfl))
 t0:=underlying0
 a0:=isAgg0
 z0:=sizeOf0
 v0:=zeroValue0
 t2:=underlying2
 a2:=isAgg2
 z2:=sizeOf2
 v2:=zeroValue2
 t3:=underlying3
 a3:=isAgg3
 z3:=sizeOf3
 v3:=zeroValue3
 t4:=underlying4
 a4:=isAgg4
 z4:=sizeOf4
 v4:=zeroValue4
 t5:=underlying5
 a5:=isAgg5
 z5:=sizeOf5
 v5:=zeroValue5
 t9:=underlying9
 a9:=isAgg9
 z9:=sizeOf9
 v9:=zeroValue9
 t20:=underlying20
 a20:=isAgg20
 z20:=sizeOf20
 v20:=zeroValue20
 t21:=underlying21
 a21:=isAgg21
 z21:=sizeOf21
 v21:=zeroValue21
 t37:=underlying198
 a37:=isAgg198
 z37:=sizeOf198
 v37:=zeroValue198
 t46:=underlying322
 a46:=isAgg322
 z46:=sizeOf322
 v46:=zeroValue322
 t51:=underlying343
 a51:=isAgg343
 z51:=sizeOf343
 v51:=zeroValue343
 t53:=underlying280
 a53:=isAgg280
 z53:=sizeOf280
 v53:=zeroValue280
 t75:=underlying240
 a75:=isAgg240
 z75:=sizeOf240
 v75:=zeroValue240
 t76:=underlying241
 a76:=isAgg241
 z76:=sizeOf241
 v76:=zeroValue241
 t85:=underlying326
 a85:=isAgg326
 z85:=sizeOf326
 v85:=zeroValue326
 t127:=underlying324
 a127:=isAgg324
 z127:=sizeOf324
 v127:=zeroValue324
 t143:=underlying359
 a143:=isAgg359
 z143:=sizeOf359
 v143:=zeroValue359
 t145:=underlying361
 a145:=isAgg361
 z145:=sizeOf361
 v145:=zeroValue361
 t167:=underlying325
 a167:=isAgg325
 z167:=sizeOf325
 v167:=zeroValue325
 t168:=underlying328
 a168:=isAgg328
 z168:=sizeOf328
 v168:=zeroValue328
 t171:=underlying331
 a171:=isAgg331
 z171:=sizeOf331
 v171:=zeroValue331
 t173:=underlying334
 a173:=isAgg334
 z173:=sizeOf334
 v173:=zeroValue334
 t175:=underlying281
 a175:=isAgg281
 z175:=sizeOf281
 v175:=zeroValue281
 t210:=underlying351
 a210:=isAgg351
 z210:=sizeOf351
 v210:=zeroValue351
 t212:=underlying354
 a212:=isAgg354
 z212:=sizeOf354
 v212:=zeroValue354
 t213:=underlying355
 a213:=isAgg355
 z213:=sizeOf355
 t232:=underlying367
 a232:=isAgg367
 z232:=sizeOf367
 v232:=zeroValue367
 t233:=underlying368
 a233:=isAgg368
 z233:=sizeOf368
 v233:=zeroValue368
 g15:=by kernel_rfl
 g16:=by kernel_rfl
 g17:=by kernel_rfl
 g18:=by kernel_rfl
 g19:=by kernel_rfl }
theorem oI(w:World)(e:TypeId)(s:ByteArray):agx w (Lib.bytesWorld w e s):=
 ⟨by rw[Lib.bytesWorld_size];omega,fun k Z=>Lib.bytesWorld_at_old w e s k Z,rfl,rfl,rfl,by first | exact L9 _ | exact Nat.le_add_right _ _ | exact Nat.le_succ _⟩
theorem Q4(n:Int)(h0: -9223372036854775808<=n)(h1:n<=9223372036854775807)(mem:Mem):kO prog 104 [.int .i64 n] mem (.str (cf n)) mem:=
 kO.agG (iL _ func104 (by kernel_rfl) (by kernel_rfl)) (Vs:=[.int .i64 n]) (fun μ n Us h=>by simpa [af5,af4] using h) (V:=.string ⟨(cf n).toArray⟩) (fun μ n=>by simp[af4])
  (fun Z w X=>(Any.strconv_Itoa Hp n h0 h1 w (X.aii (by kernel_rfl))).mono fun e w' ⟨h1,k,os,h2⟩=>⟨by rw[h1,UX],h2▸agx.grow w k os⟩) mem
theorem QO(s:List UInt8)(n:Int)(y:s.length<=18)(h:Lib.atoi s=some n)(mem:Mem):kO prog 150 [.str s] mem (.tuple [.int .i64 n,.nilIface]) mem:=
 kO.agG (iL _ func150 (by kernel_rfl) (by kernel_rfl)) (Vs:=[.string ⟨s.toArray⟩]) (fun μ n Us h=>by simpa [af5,af4] using h) (V:=.tuple #[.int .i64 n,.nilIface]) (fun μ n=>by simp only[af4,af5];exact⟨_,rfl,_,_,rfl,rfl,_,_,rfl,rfl,rfl⟩)
  (fun Z w X=>(Any.strconv_Atoi Ho ⟨s.toArray⟩ n (by simpa [ByteArray.size] using y) (by simpa using h) w).mono fun e w' ⟨h1,t,h2⟩=>⟨h1,by rw[h2];exact oI _ _ _⟩) mem
end Go.Proofs
namespace Go.Proofs
open Go.Eng
open Tryz
noncomputable def pz(f:FuncId)(args:List AV):Option AV:=
 match f,args with
 |217,[.str s,.str p]=>some (.tuple [.str (Lib.trimPrefix s p),.bool (Lib.hasPrefix s p)])
 |219,[.str s,.str p]=>some (.str (Lib.trimPrefix s p))
 |_,_=>none
theorem wV:adM prog (af pz):=bX fun f Z v h mem=>by
 unfold pz at h;split at h
 .cases h;exact An _ _ mem
 .cases h;exact yz _ _ mem
 .cases h
theorem BC(s p:List UInt8)(mem:Mem):kO prog 142 [.str s,.str p] mem (.tuple [.str (Lib.trimPrefix s p),.bool (Lib.hasPrefix s p)]) mem:=by
 have Z:aS prog 142=some f142:=by kernel_rfl
 refine aD wV ?_ mem;simp[aa,Z,f142,af,pz]
theorem Ax(s p:List UInt8)(mem:Mem):kO prog 144 [.str s,.str p] mem (.str (Lib.trimPrefix s p)) mem:=by
 have Z:aS prog 144=some f144:=by kernel_rfl
 refine aD wV ?_ mem;simp[aa,Z,f144,af,pz]
def dw(n:Int):Bool:=decide (-9223372036854775808<=n)&&decide (n<=9223372036854775807)
noncomputable def ar(f:FuncId)(args:List AV):Option AV:=
 match f,args with
 |218,[.str s,.str p]=>some (.bool (Lib.hasPrefix s p))
 |145,[.str s,.str p]=>some (.int .i64 (Lib.compareBytes s p))
 |209,[.str s,.int .u8 c]=>if 0<=c then some (.int .i64 (Lib.indexByte s c.toNat.toUInt8)) else none
 |93,[.str s,.str [c]]=>if s.length<=1000000000 then some (if 0<=Lib.indexByte s c then .tuple [.str (s.take (Lib.indexByte s c).toNat),.str (s.drop ((Lib.indexByte s c).toNat+1)),.bool true] else .tuple [.str s,.str [],.bool false]) else none
 |142,[.str s,.str p]=>some (.tuple [.str (Lib.trimPrefix s p),.bool (Lib.hasPrefix s p)])
 |144,[.str s,.str p]=>some (.str (Lib.trimPrefix s p))
 |104,[.int .i64 n]=>if dw n then some (.str (cf n)) else none
 |150,[.str s]=>if s.length<=18 then match Lib.atoi s with
  |some n=>some (.tuple [.int .i64 n,.nilIface])
  |none=>none
  else none
 |_,_=>none
theorem fh:adM prog (af ar):=bX fun f W v h mem=>by
 unfold ar at h;split at h
 .cases h;exact BU _ _ mem
 .cases h;exact Gx _ _ mem
 .split at h
  next hc=>cases h;exact At _ _ hc mem
  .cases h
 .split at h
  next X=>cases h;exact Ts _ _ mem X
  .cases h
 .cases h;exact BC _ _ mem
 .cases h;exact Ax _ _ mem
 .split at h
  .rename_i Z
   cases h;simp only[dw,Es,L0] at Z;exact Q4 _ Z.1 Z.2 mem
  .cases h
 .split at h
  .rename_i X
   split at h
   next n Z=>cases h;exact QO _ _ X Z mem
   .cases h
  .cases h
 .cases h
end Go.Proofs
