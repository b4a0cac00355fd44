/- See P53. -/
import Derived.Test.YtmhkeaphiadacaaGreatDoorP06
import Derived.Test.YtmhkeaphiadacaaGreatDoorProg
import Derived.KernelRfl
import Derived.Lib.Strings
import Derived.Lib.Slices
import Derived.Lib.Walk
import Derived.Lib.Bytealg
import Derived.Lib.IndexLaws
set_option linter.all false
set_option maxRecDepth 100000
set_option maxHeartbeats 40000000
namespace Go.Proofs
open Go.Eng
open Tryz
theorem af:prog.follows .mixedOrders=true:=by kernel_rfl
theorem kX(a b:ByteArray)(w:World):
  Calls prog 246 #[.string a,.string b] w fun e w' =>e=.returned (.int .i64 (Lib.compareBytes a.data.toList b.data.toList))∧w' =w:=by
 go_enter func246,ntmps246
 go_wp2
 rw[run_callFunc_extern func268 (by kernel_rfl) (by kernel_rfl) (by kernel_rfl) (e:=Extern.BytealgCompare.compare) (by kernel_rfl),Lib.run_compareString];simp only[Result.andThen];rw[Oper.upon_value]
 go_wp2
 go_ret
 exact⟨rfl,rfl⟩
theorem gM(s:ByteArray)(c:Int)(w:World):
  Calls prog 192 #[.string s,.int .u8 c] w fun e w' =>e=.returned (.int .i64 (Lib.indexByte s.data.toList c.toNat.toUInt8))∧w' =w:=by
 go_enter func192,ntmps192
 go_wp2
 rw[run_callFunc_extern func226 (by kernel_rfl) (by kernel_rfl) (by kernel_rfl) (e:=Extern.BytealgIndexByte.indexByte) (by kernel_rfl),Lib.run_indexByteString];simp only[Result.andThen];rw[Oper.upon_value]
 go_wp2
 go_ret
 exact⟨rfl,rfl⟩
theorem kY(s:ByteArray)(c:UInt8)(w:World):
  Calls prog 254 #[.string s,.string ⟨#[c]⟩] w fun e w' =>e=.returned (.int .i64 (Lib.indexByte s.data.toList c))∧w' =w:=by
 go_enter func254,ntmps254
 go_wp2_with (go_at_call 192;refine(gM _ _ _).mono ?_;rintro e w' ⟨rfl,rfl⟩)
 ·have h:([c]==s.toList)=true:=by assumption
  go_ret
  refine⟨?_,rfl⟩;have e:s.data.toList=[c]:=by rw[←Lib.toList_data];exact(beq_iff_eq.1 h).symm
  rw[e];simp[Lib.indexByte]
 ·go_ret
  exact⟨rfl,rfl⟩
theorem gC(f:FuncId){fn:Func}(h:prog.funcs[f]? =some fn)(hb:fn.body.isSome=true)(hn:(fn.name == "runtime.NumGoroutine")=false):Sv prog f:=⟨fn,h,hb,hn⟩
theorem jY(a b:List UInt8)(mem:Mem):mB prog 246 [.str a,.str b] mem (.int .i64 (Lib.compareBytes a b)) mem:=
 mB.aaR (gC _ func246 (by kernel_rfl) (by kernel_rfl)) (Vs:=[.string ⟨a.toArray⟩,.string ⟨b.toArray⟩]) (fun μ n Us h=>by simpa [aad,aab] using h) (V:=.int .i64 (Lib.compareBytes a b)) (fun μ n=>by simp[aab])
  (fun base w _=>(kX ⟨a.toArray⟩ ⟨b.toArray⟩ w).mono fun e w' ⟨h1,h2⟩=>⟨h1,h2▸aaC.refl w⟩) mem
theorem pG(s:List UInt8)(c:Nat)(mem:Mem):mB prog 192 [.str s,.int .u8 c] mem (.int .i64 (Lib.indexByte s c.toUInt8)) mem:=
 mB.aaR (gC _ func192 (by kernel_rfl) (by kernel_rfl)) (Vs:=[.string ⟨s.toArray⟩,.int .u8 c]) (fun μ n Us h=>by simpa [aad,aab] using h) (V:=.int .i64 (Lib.indexByte s c.toUInt8)) (fun μ n=>by simp[aab])
  (fun base w _=>(gM ⟨s.toArray⟩ c w).mono fun e w' ⟨h1,h2⟩=>⟨by simpa using h1,h2▸aaC.refl w⟩) mem
theorem BT(s:List UInt8)(c:UInt8)(mem:Mem):mB prog 254 [.str s,.str [c]] mem (.int .i64 (Lib.indexByte s c)) mem:=
 mB.aaR (gC _ func254 (by kernel_rfl) (by kernel_rfl)) (Vs:=[.string ⟨s.toArray⟩,.string ⟨#[c]⟩]) (fun μ n Us h=>by simpa [aad,aab] using h) (V:=.int .i64 (Lib.indexByte s c)) (fun μ n=>by simp[aab])
  (fun base w _=>(kY ⟨s.toArray⟩ c w).mono fun e w' ⟨h1,h2⟩=>⟨h1,h2▸aaC.refl w⟩) mem
theorem E6:aC prog 3=some ⟨.int .i64,1,8,.int .i64 0,true⟩:=by kernel_rfl
theorem Ux:aC prog 4=some ⟨.bool,1,1,.bool false,true⟩:=by kernel_rfl
theorem Uy:aC prog 5=some ⟨.int .u8,1,1,.int .u8 0,true⟩:=by kernel_rfl
theorem Uz:aC prog 9=some ⟨.string,1,16,.string ⟨#[]⟩,true⟩:=by kernel_rfl
theorem SU:aC prog 22=some ⟨.int .i8,1,1,.int .i8 0,true⟩:=by kernel_rfl
theorem SX:aC prog 26=some ⟨.slice 32,1,24,.slice none 0 0,true⟩:=by kernel_rfl
theorem S4:aC prog 35=some ⟨.slice 121,1,24,.slice none 0 0,true⟩:=by kernel_rfl
theorem S5:aC prog 36=some ⟨.slice 124,1,24,.slice none 0 0,true⟩:=by kernel_rfl
theorem S7:aC prog 39=some ⟨.slice 65,1,24,.slice none 0 0,true⟩:=by kernel_rfl
theorem S9:aC prog 43=some ⟨.slice 49,1,24,.slice none 0 0,true⟩:=by kernel_rfl
theorem Ta:aC prog 44=some ⟨.slice 49,1,24,.slice none 0 0,true⟩:=by kernel_rfl
theorem Tb:aC prog 45=some ⟨.slice 9,1,24,.slice none 0 0,true⟩:=by kernel_rfl
theorem Tc:aC prog 46=some ⟨.slice 44,1,24,.slice none 0 0,true⟩:=by kernel_rfl
theorem Te:aC prog 49=some ⟨.string,1,16,.string ⟨#[]⟩,true⟩:=by kernel_rfl
theorem Ti:aC prog 56=some ⟨.slice 110,1,24,.slice none 0 0,true⟩:=by kernel_rfl
theorem Tp:aC prog 84=some ⟨.slice 3,1,24,.slice none 0 0,true⟩:=by kernel_rfl
theorem Q7:aC prog 111=some ⟨.slice 61,1,24,.slice none 0 0,true⟩:=by kernel_rfl
theorem Ra:aC prog 139=some ⟨.slice 143,1,24,.slice none 0 0,true⟩:=by kernel_rfl
theorem Rb:aC prog 147=some ⟨.slice 51,1,24,.slice none 0 0,true⟩:=by kernel_rfl
theorem Rc:aC prog 149=some ⟨.string,1,16,.string ⟨#[]⟩,true⟩:=by kernel_rfl
theorem Rd:aC prog 158=some ⟨.map 121 4,1,8,.map none,true⟩:=by kernel_rfl
theorem AG:aC prog 199=some ⟨.map 143 3,1,8,.map none,true⟩:=by kernel_rfl
theorem JQ:aC prog 202=some ⟨.map 3 4,1,8,.map none,true⟩:=by kernel_rfl
theorem Rf:aC prog 242=some ⟨.map 3 3,1,8,.map none,true⟩:=by kernel_rfl
attribute [simp] E6 Ux Uy Uz SU SX S4 S5 S7 S9 Ta
attribute [simp] Tb Tc Te Ti Tp Q7 Ra Rb Rc Rd AG JQ Rf
noncomputable def rG(f:FuncId) (args:List AV):Option AV:=
 match f,args with
 |246,[.str a,.str b]=>some (.int .i64 (Lib.compareBytes a b))
 |192,[.str s,.int .u8 c]=>if 0≤c then some (.int .i64 (Lib.indexByte s c.toNat.toUInt8)) else none
 |254,[.str s,.str [c]]=>some (.int .i64 (Lib.indexByte s c))
 |_,_=>none
theorem GB:qS prog (ar rG):=bZ fun f args v h mem=>by
 unfold rG at h;split at h
 ·cases h;exact jY _ _ mem
 ·split at h
  ·rename_i c hc
   cases h;have e:c=((c.toNat:Nat):Int):=by omega
   have:=pG ‹List UInt8› c.toNat mem;rw[←e] at this;exact this
  ·cases h
 ·cases h;exact BT _ _ mem
 ·cases h
variable{K:Nat}{O:aac}{args:List AV}{f:FuncId}{lv:Code→List Nat}{v:AV}
theorem aB(hO:qS prog O)(ha:AV.aag args=true)(hv:v.closed=true)(h:ad (aC prog) lv (aO prog) O K f args []=some ⟨v,none,[]⟩)(mem:Mem):mB prog f args mem v mem:=
 mB.acC af (aw _) hO (ax _) ha hv h mem
variable{mem:Mem}
theorem Q5(hO:qS prog O){new:Mem}(h:ad (aC prog) lv (aO prog) O K f args mem=some ⟨v,none,new⟩):mB prog f args mem v (mem++new):=
 (au af (aw _) hO (ax _) h).1
theorem aY(hO:qS prog O)(h:ad (aC prog) lv (aO prog) O K f args mem=some ⟨v,none,[]⟩):mB prog f args mem v mem:=by simpa using Q5 hO h
theorem IJ:aO prog 257=some f257:=by kernel_rfl
theorem yk(s p:List UInt8)(mem:Mem):mB prog 257 [.str s,.str p] mem (.bool (Lib.hasPrefix s p)) mem:=by
 refine aB (ah _) (lv:=fun _=>[]) (K:=1) rfl rfl ?_ mem;rw[←Lib.hasPrefix_of_take];by_cases h:p.length≤s.length
 ·simp[ad,IJ,f257,h]
 ·simp[ad,IJ,f257,h]
theorem II:aO prog 222=some f222:=by kernel_rfl
theorem vZ{s:List UInt8}{c:UInt8}{i:Nat}(h:Lib.indexByte s c=i):i<s.length:=by have:=(Lib.indexByte_some h).1;exact(List.getElem?_eq_some_iff.1 this).1
theorem Oh(s:List UInt8)(c:UInt8)(mem:Mem)(hl:s.length≤1000000000):mB prog 222 [.str s,.str [c]] mem (if 0≤Lib.indexByte s c then .tuple [.str (s.take (Lib.indexByte s c).toNat),.str (s.drop ((Lib.indexByte s c).toNat+1)),.bool true] else .tuple [.str s,.str [],.bool false]) mem:=by
 refine aB GB (lv:=fun _=>[]) (K:=1) rfl (by split<;>rfl) ?_ mem;by_cases h:0≤Lib.indexByte s c
 ·obtain⟨i,hi⟩:∃i:Nat,Lib.indexByte s c=i:=⟨_,(Int.toNat_of_nonneg h).symm⟩
  have AC:=vZ hi;have h1:(i:Int)≤s.length:=by omega
  have h2:IntKind.i64.wrap ((i:Int)+1)=(i:Int)+1:=ai (by omega) (by omega);have h3:(i:Int)+1≤s.length:=by omega
  have h4:((i:Int)+1).toNat=i+1:=by omega
  have h5:(0:Int)≤(i:Int)+1:=by omega
  simp[ad,II,f222,hi,ar,rG,h1,h2,h3,h4,h5];rw[List.take_of_length_le (by simp)]
 ·simp[ad,II,f222,h,ar,rG]
noncomputable def ez(f:FuncId) (args:List AV):Option AV:=
 match f,args with
 |246,[.str a,.str b]=>some (.int .i64 (Lib.compareBytes a b))
 |192,[.str s,.int .u8 c]=>if 0≤c then some (.int .i64 (Lib.indexByte s c.toNat.toUInt8)) else none
 |257,[.str s,.str p]=>some (.bool (Lib.hasPrefix s p))
 |222,[.str s,.str [c]]=>if s.length≤1000000000 then some (if 0≤Lib.indexByte s c then .tuple [.str (s.take (Lib.indexByte s c).toNat),.str (s.drop ((Lib.indexByte s c).toNat+1)),.bool true] else .tuple [.str s,.str [],.bool false]) else none
 |_,_=>none
theorem gB:qS prog (ar ez):=bZ fun f args v h mem=>by
 unfold ez at h;split at h
 ·cases h;exact jY _ _ mem
 ·split at h
  ·rename_i c hc
   cases h;have e:c=((c.toNat:Nat):Int):=by omega
   have:=pG ‹List UInt8› c.toNat mem;rw[←e] at this;exact this
  ·cases h
 ·cases h;exact yk _ _ mem
 ·split at h
  ·rename_i hl;cases h;exact Oh _ _ mem hl
  ·cases h
 ·cases h
theorem zQ(s p:List UInt8)(mem:Mem):mB prog 225 [.str s,.str p] mem (.bool (Lib.hasPrefix s p)) mem:=by
 have hG:aO prog 225=some f225:=by kernel_rfl
 refine aB gB (lv:=fun _=>[]) (K:=1) rfl rfl ?_ mem;simp[ad,hG,f225,ar,ez]
theorem DS(s p:List UInt8)(mem:Mem):mB prog 215 [.str s,.str p] mem (.int .i64 (Lib.compareBytes s p)) mem:=by
 have hG:aO prog 215=some f215:=by kernel_rfl
 refine aB gB (lv:=fun _=>[]) (K:=1) rfl rfl ?_ mem;simp[ad,hG,f215,ar,ez]
theorem ym(s:List UInt8)(c:Int)(hc:0≤c)(mem:Mem):mB prog 128 [.str s,.int .u8 c] mem (.int .i64 (Lib.indexByte s c.toNat.toUInt8)) mem:=by
 have hG:aO prog 128=some f128:=by kernel_rfl
 refine aB gB (lv:=fun _=>[]) (K:=1) rfl rfl ?_ mem;simp[ad,hG,f128,ar,ez,hc]
theorem Qt(s:List UInt8)(c:UInt8)(mem:Mem)(hl:s.length≤1000000000):mB prog 188 [.str s,.str [c]] mem (if 0≤Lib.indexByte s c then .tuple [.str (s.take (Lib.indexByte s c).toNat),.str (s.drop ((Lib.indexByte s c).toNat+1)),.bool true] else .tuple [.str s,.str [],.bool false]) mem:=by
 have hG:aO prog 188=some f188:=by kernel_rfl
 refine aB gB (lv:=fun _=>[]) (K:=1) rfl (by split<;>rfl) ?_ mem;by_cases h:0≤Lib.indexByte s c
 ·simp[ad,hG,f188,ar,ez,hl,h]
 ·simp[ad,hG,f188,ar,ez,hl,h]
theorem yh(s p:List UInt8)(mem:Mem):mB prog 255 [.str s,.str p] mem (.tuple [.str (Lib.trimPrefix s p),.bool (Lib.hasPrefix s p)]) mem:=by
 have hG:aO prog 255=some f255:=by kernel_rfl
 refine aB gB (lv:=fun _=>[]) (K:=1) rfl rfl ?_ mem;cases h:Lib.hasPrefix s p with
 |false=>simp[ad,hG,f255,ar,ez,h,Lib.trimPrefix]
 |true=>
  have Xr:p.length≤s.length:=(List.isPrefixOf_iff_prefix.1 h).length_le;simp[ad,hG,f255,ar,ez,h,Lib.trimPrefix,Xr];rw[List.take_of_length_le (by simp)]
theorem vU(s p:List UInt8)(mem:Mem):mB prog 245 [.str s,.str p] mem (.str (Lib.trimPrefix s p)) mem:=by
 have hG:aO prog 245=some f245:=by kernel_rfl
 refine aB gB (lv:=fun _=>[]) (K:=1) rfl rfl ?_ mem;cases h:Lib.hasPrefix s p with
 |false=>simp[ad,hG,f245,ar,ez,h,Lib.trimPrefix]
 |true=>
  have Xr:p.length≤s.length:=(List.isPrefixOf_iff_prefix.1 h).length_le;simp[ad,hG,f245,ar,ez,h,Lib.trimPrefix,Xr];rw[List.take_of_length_le (by simp)]
end Go.Proofs
