/- See Q54. -/
import Derived.Test.YtgafjliihahjgaaGreatDoorQ06
import Derived.Test.YtgafjliihahjgaaGreatDoorProg
import Derived.KernelRfl
import Derived.Lib.Strings
import Derived.Lib.Slices
import Derived.Lib.Walk
import Derived.Lib.Bytealg
import Derived.Lib.IndexLaws
set_option linter.all false
namespace Go.Proofs
open Go.Eng
theorem ae:Tryz.prog.follows .mixedOrders=true:=by kernel_rfl
set_option maxHeartbeats 1000000 in
set_option maxRecDepth 100000 in
theorem jL(a b:ByteArray) (w:World):
  Calls Tryz.prog 220 #[.string a,.string b] w fun e w' =>e=.returned (.int .i64 (Lib.compareBytes a.data.toList b.data.toList))∧w' =w:=by
 go_enter Tryz.func220,Tryz.ntmps220
 go_wp2
 rw[run_callFunc_extern Tryz.func263 (by kernel_rfl) (by kernel_rfl) (by kernel_rfl) (e:=Extern.BytealgCompare.compare) (by kernel_rfl),Lib.run_compareString];simp only[Result.andThen];rw[Oper.upon_value]
 go_wp2
 go_ret
 exact⟨rfl,rfl⟩
set_option maxHeartbeats 1000000 in
set_option maxRecDepth 100000 in
theorem fU(s:ByteArray) (c:Int) (w:World):
  Calls Tryz.prog 257 #[.string s,.int .u8 c] w fun e w' =>e=.returned (.int .i64 (Lib.indexByte s.data.toList c.toNat.toUInt8))∧w' =w:=by
 go_enter Tryz.func257,Tryz.ntmps257
 go_wp2
 rw[run_callFunc_extern Tryz.func285 (by kernel_rfl) (by kernel_rfl) (by kernel_rfl) (e:=Extern.BytealgIndexByte.indexByte) (by kernel_rfl),Lib.run_indexByteString];simp only[Result.andThen];rw[Oper.upon_value]
 go_wp2
 go_ret
 exact⟨rfl,rfl⟩
set_option maxHeartbeats 2000000 in
set_option maxRecDepth 100000 in
theorem jM(s:ByteArray) (c:UInt8) (w:World):
  Calls Tryz.prog 216 #[.string s,.string ⟨#[c]⟩] w fun e w' =>e=.returned (.int .i64 (Lib.indexByte s.data.toList c))∧w' =w:=by
 go_enter Tryz.func216,Tryz.ntmps216
 go_wp2_with (go_at_call 257;refine(fU _ _ _).mono ?_;rintro e w' ⟨rfl,rfl⟩)
 ·have h:([c]==s.toList)=true:=by assumption
  go_ret
  refine⟨?_,rfl⟩;have e:s.data.toList=[c]:=by rw[←Lib.toList_data];exact(beq_iff_eq.1 h).symm
  rw[e];simp[Lib.indexByte]
 ·go_ret
  exact⟨rfl,rfl⟩
theorem fO(f:FuncId) {fn:Func}(h:Tryz.prog.funcs[f]? =some fn) (hb:fn.body.isSome=true) (hn:(fn.name == "runtime.NumGoroutine")=false):Qg Tryz.prog f:=⟨fn,h,hb,hn⟩
theorem jq(a b:List UInt8) (mem:Mem):ACallsTo Tryz.prog 220 [.str a,.str b] mem (.int .i64 (Lib.compareBytes a b)) mem:=
 ACallsTo.of_calls (fO _ Tryz.func220 (by kernel_rfl) (by kernel_rfl)) (Vs:=[.string ⟨a.toArray⟩,.string ⟨b.toArray⟩]) (fun μ n Us h=>by simpa [VRels,VRel] using h) (V:=.int .i64 (Lib.compareBytes a b)) (fun μ n=>by simp[VRel])
  (fun base w _=>(jL ⟨a.toArray⟩ ⟨b.toArray⟩ w).mono fun e w' ⟨h1,h2⟩=>⟨h1,h2▸Gentle.refl w⟩) mem
theorem nC(s:List UInt8) (c:Nat) (mem:Mem):ACallsTo Tryz.prog 257 [.str s,.int .u8 c] mem (.int .i64 (Lib.indexByte s c.toUInt8)) mem:=
 ACallsTo.of_calls (fO _ Tryz.func257 (by kernel_rfl) (by kernel_rfl)) (Vs:=[.string ⟨s.toArray⟩,.int .u8 c]) (fun μ n Us h=>by simpa [VRels,VRel] using h) (V:=.int .i64 (Lib.indexByte s c.toUInt8)) (fun μ n=>by simp[VRel])
  (fun base w _=>(fU ⟨s.toArray⟩ c w).mono fun e w' ⟨h1,h2⟩=>⟨by simpa using h1,h2▸Gentle.refl w⟩) mem
theorem Ab(s:List UInt8) (c:UInt8) (mem:Mem):ACallsTo Tryz.prog 216 [.str s,.str [c]] mem (.int .i64 (Lib.indexByte s c)) mem:=
 ACallsTo.of_calls (fO _ Tryz.func216 (by kernel_rfl) (by kernel_rfl)) (Vs:=[.string ⟨s.toArray⟩,.string ⟨#[c]⟩]) (fun μ n Us h=>by simpa [VRels,VRel] using h) (V:=.int .i64 (Lib.indexByte s c)) (fun μ n=>by simp[VRel])
  (fun base w _=>(jM ⟨s.toArray⟩ c w).mono fun e w' ⟨h1,h2⟩=>⟨h1,h2▸Gentle.refl w⟩) mem
theorem Tz:aM Tryz.prog 2=some ⟨.int .i64,1,8,.int .i64 0,true⟩:=by kernel_rfl
theorem JG:aM Tryz.prog 3=some ⟨.int .i64,1,8,.int .i64 0,true⟩:=by kernel_rfl
theorem RX:aM Tryz.prog 4=some ⟨.bool,1,1,.bool false,true⟩:=by kernel_rfl
theorem RY:aM Tryz.prog 5=some ⟨.int .u8,1,1,.int .u8 0,true⟩:=by kernel_rfl
theorem TA:aM Tryz.prog 6=some ⟨.int .u8,1,1,.int .u8 0,true⟩:=by kernel_rfl
theorem RZ:aM Tryz.prog 9=some ⟨.string,1,16,.string ⟨#[]⟩,true⟩:=by kernel_rfl
theorem Qw:aM Tryz.prog 22=some ⟨.int .i8,1,1,.int .i8 0,true⟩:=by kernel_rfl
theorem Qz:aM Tryz.prog 26=some ⟨.slice 94,1,24,.slice none 0 0,true⟩:=by kernel_rfl
theorem QB:aM Tryz.prog 29=some ⟨.string,1,16,.string ⟨#[]⟩,true⟩:=by kernel_rfl
theorem QD:aM Tryz.prog 34=some ⟨.slice 101,1,24,.slice none 0 0,true⟩:=by kernel_rfl
theorem QE:aM Tryz.prog 35=some ⟨.slice 148,1,24,.slice none 0 0,true⟩:=by kernel_rfl
theorem QG:aM Tryz.prog 38=some ⟨.slice 83,1,24,.slice none 0 0,true⟩:=by kernel_rfl
theorem QI:aM Tryz.prog 45=some ⟨.slice 3,1,24,.slice none 0 0,true⟩:=by kernel_rfl
theorem QK:aM Tryz.prog 57=some ⟨.slice 9,1,24,.slice none 0 0,true⟩:=by kernel_rfl
theorem QL:aM Tryz.prog 65=some ⟨.slice 29,1,24,.slice none 0 0,true⟩:=by kernel_rfl
theorem QM:aM Tryz.prog 66=some ⟨.slice 29,1,24,.slice none 0 0,true⟩:=by kernel_rfl
theorem QN:aM Tryz.prog 67=some ⟨.slice 66,1,24,.slice none 0 0,true⟩:=by kernel_rfl
theorem QR:aM Tryz.prog 74=some ⟨.slice 124,1,24,.slice none 0 0,true⟩:=by kernel_rfl
theorem OD:aM Tryz.prog 116=some ⟨.slice 119,1,24,.slice none 0 0,true⟩:=by kernel_rfl
theorem OF:aM Tryz.prog 125=some ⟨.slice 79,1,24,.slice none 0 0,true⟩:=by kernel_rfl
theorem OG:aM Tryz.prog 139=some ⟨.string,1,16,.string ⟨#[]⟩,true⟩:=by kernel_rfl
theorem OK:aM Tryz.prog 173=some ⟨.slice 31,1,24,.slice none 0 0,true⟩:=by kernel_rfl
theorem OL:aM Tryz.prog 193=some ⟨.map 101 4,1,8,.map none,true⟩:=by kernel_rfl
theorem G0:aM Tryz.prog 252=some ⟨.map 119 3,1,8,.map none,true⟩:=by kernel_rfl
theorem G1:aM Tryz.prog 255=some ⟨.map 3 4,1,8,.map none,true⟩:=by kernel_rfl
theorem OO:aM Tryz.prog 302=some ⟨.map 3 3,1,8,.map none,true⟩:=by kernel_rfl
attribute [simp] JG RX RY RZ Qw Qz QB QD QE QG
attribute [simp] QI QK QL QM QN QR OD OF OG OK OL G0 G1 OO
noncomputable def oW(f:FuncId) (args:List AV):Option AV:=
 match f,args with
 |220,[.str a,.str b]=>some (.int .i64 (Lib.compareBytes a b))
 |257,[.str s,.int .u8 c]=>if 0≤c then some (.int .i64 (Lib.indexByte s c.toNat.toUInt8)) else none
 |216,[.str s,.str [c]]=>some (.int .i64 (Lib.indexByte s c))
 |_,_=>none
theorem Eu:OracleOk Tryz.prog (af oW):=bq fun f args v h mem=>by
 unfold oW at h;split at h
 ·cases h;exact jq _ _ mem
 ·split at h
  ·rename_i c hc
   cases h;have e:c=((c.toNat:Nat):Int):=by omega
   have:=nC ‹List UInt8› c.toNat mem;rw[←e] at this;exact this
  ·cases h
 ·cases h;exact Ab _ _ mem
 ·cases h
theorem aq{lv:Code→List Nat}{O:Oracle}(hO:OracleOk Tryz.prog O) {K:Nat}{f:FuncId}{args:List AV}{v:AV}(ha:AV.closeds args=true) (hv:v.closed=true)
  (h:aa (aM Tryz.prog) lv (aL Tryz.prog) O K f args []=some ⟨v,none,[]⟩) (mem:Mem):ACallsTo Tryz.prog f args mem v mem:=
 ACallsTo.of_run ae (aw _) hO (az _) ha hv h mem
theorem OB{lv:Code→List Nat}{K:Nat}{O:Oracle}(hO:OracleOk Tryz.prog O) {f:FuncId}{args:List AV}{mem new:Mem}{v:AV}
  (h:aa (aM Tryz.prog) lv (aL Tryz.prog) O K f args mem=some ⟨v,none,new⟩):ACallsTo Tryz.prog f args mem v (mem++new):=
 (al ae (aw _) hO (az _) h).1
theorem aZ{lv:Code→List Nat}{K:Nat}{O:Oracle}(hO:OracleOk Tryz.prog O) {f:FuncId}{args:List AV}{mem:Mem}{v:AV}
  (h:aa (aM Tryz.prog) lv (aL Tryz.prog) O K f args mem=some ⟨v,none,[]⟩):ACallsTo Tryz.prog f args mem v mem:=by
 simpa using OB hO h
theorem Ge:aL Tryz.prog 262=some Tryz.f262:=by kernel_rfl
theorem vU(s p:List UInt8) (mem:Mem):ACallsTo Tryz.prog 262 [.str s,.str p] mem (.bool (Lib.hasPrefix s p)) mem:=by
 refine aq (ao _) (lv:=fun _=>[]) (K:=1) rfl rfl ?_ mem;rw[←Lib.hasPrefix_of_take];by_cases h:p.length≤s.length
 ·simp[aa,Ge,Tryz.f262,h]
 ·simp[aa,Ge,Tryz.f262,h]
theorem Gd:aL Tryz.prog 141=some Tryz.f141:=by kernel_rfl
theorem tV{s:List UInt8}{c:UInt8}{i:Nat}(h:Lib.indexByte s c=i):i<s.length:=by have:=(Lib.indexByte_some h).1;exact(List.getElem?_eq_some_iff.1 this).1
theorem Lk(s:List UInt8) (c:UInt8) (mem:Mem) (hl:s.length≤1000000000):ACallsTo Tryz.prog 141 [.str s,.str [c]] mem (if 0≤Lib.indexByte s c then .tuple [.str (s.take (Lib.indexByte s c).toNat),.str (s.drop ((Lib.indexByte s c).toNat+1)),.bool true] else .tuple [.str s,.str [],.bool false]) mem:=by
 refine aq Eu (lv:=fun _=>[]) (K:=1) rfl (by split<;>rfl) ?_ mem;by_cases h:0≤Lib.indexByte s c
 ·obtain⟨i,hi⟩:∃i:Nat,Lib.indexByte s c=i:=⟨_,(Int.toNat_of_nonneg h).symm⟩
  have hlt:=tV hi;have h1:(i:Int)≤s.length:=by omega
  have h2:IntKind.i64.wrap ((i:Int)+1)=(i:Int)+1:=aj (by omega) (by omega);have h3:(i:Int)+1≤s.length:=by omega
  have h4:((i:Int)+1).toNat=i+1:=by omega
  have h5:(0:Int)≤(i:Int)+1:=by omega
  simp[aa,Gd,Tryz.f141,hi,af,oW,h1,h2,h3,h4,h5];rw[List.take_of_length_le (by simp)]
 ·simp[aa,Gd,Tryz.f141,h,af,oW]
noncomputable def dH(f:FuncId) (args:List AV):Option AV:=
 match f,args with
 |220,[.str a,.str b]=>some (.int .i64 (Lib.compareBytes a b))
 |257,[.str s,.int .u8 c]=>if 0≤c then some (.int .i64 (Lib.indexByte s c.toNat.toUInt8)) else none
 |262,[.str s,.str p]=>some (.bool (Lib.hasPrefix s p))
 |141,[.str s,.str [c]]=>if s.length≤1000000000 then some (if 0≤Lib.indexByte s c then .tuple [.str (s.take (Lib.indexByte s c).toNat),.str (s.drop ((Lib.indexByte s c).toNat+1)),.bool true] else .tuple [.str s,.str [],.bool false]) else none
 |_,_=>none
theorem fN:OracleOk Tryz.prog (af dH):=bq fun f args v h mem=>by
 unfold dH at h;split at h
 ·cases h;exact jq _ _ mem
 ·split at h
  ·rename_i c hc
   cases h;have e:c=((c.toNat:Nat):Int):=by omega
   have:=nC ‹List UInt8› c.toNat mem;rw[←e] at this;exact this
  ·cases h
 ·cases h;exact vU _ _ mem
 ·split at h
  ·rename_i hl;cases h;exact Lk _ _ mem hl
  ·cases h
 ·cases h
theorem xJ(s p:List UInt8) (mem:Mem):ACallsTo Tryz.prog 218 [.str s,.str p] mem (.bool (Lib.hasPrefix s p)) mem:=by
 have hG:aL Tryz.prog 218=some Tryz.f218:=by kernel_rfl
 refine aq fN (lv:=fun _=>[]) (K:=1) rfl rfl ?_ mem;simp[aa,hG,Tryz.f218,af,dH]
theorem BQ(s p:List UInt8) (mem:Mem):ACallsTo Tryz.prog 145 [.str s,.str p] mem (.int .i64 (Lib.compareBytes s p)) mem:=by
 have hG:aL Tryz.prog 145=some Tryz.f145:=by kernel_rfl
 refine aq fN (lv:=fun _=>[]) (K:=1) rfl rfl ?_ mem;simp[aa,hG,Tryz.f145,af,dH]
theorem vV(s:List UInt8) (c:Int) (hc:0≤c) (mem:Mem):ACallsTo Tryz.prog 209 [.str s,.int .u8 c] mem (.int .i64 (Lib.indexByte s c.toNat.toUInt8)) mem:=by
 have hG:aL Tryz.prog 209=some Tryz.f209:=by kernel_rfl
 refine aq fN (lv:=fun _=>[]) (K:=1) rfl rfl ?_ mem;simp[aa,hG,Tryz.f209,af,dH,hc]
theorem NA(s:List UInt8) (c:UInt8) (mem:Mem) (hl:s.length≤1000000000):ACallsTo Tryz.prog 93 [.str s,.str [c]] mem (if 0≤Lib.indexByte s c then .tuple [.str (s.take (Lib.indexByte s c).toNat),.str (s.drop ((Lib.indexByte s c).toNat+1)),.bool true] else .tuple [.str s,.str [],.bool false]) mem:=by
 have hG:aL Tryz.prog 93=some Tryz.f93:=by kernel_rfl
 refine aq fN (lv:=fun _=>[]) (K:=1) rfl (by split<;>rfl) ?_ mem;by_cases h:0≤Lib.indexByte s c
 ·simp[aa,hG,Tryz.f93,af,dH,hl,h]
 ·simp[aa,hG,Tryz.f93,af,dH,hl,h]
theorem vM(s p:List UInt8) (mem:Mem):ACallsTo Tryz.prog 217 [.str s,.str p] mem (.tuple [.str (Lib.trimPrefix s p),.bool (Lib.hasPrefix s p)]) mem:=by
 have hG:aL Tryz.prog 217=some Tryz.f217:=by kernel_rfl
 refine aq fN (lv:=fun _=>[]) (K:=1) rfl rfl ?_ mem;cases h:Lib.hasPrefix s p with
 |false=>simp[aa,hG,Tryz.f217,af,dH,h,Lib.trimPrefix]
 |true=>
  have hle:p.length≤s.length:=(List.isPrefixOf_iff_prefix.1 h).length_le;simp[aa,hG,Tryz.f217,af,dH,h,Lib.trimPrefix,hle];rw[List.take_of_length_le (by simp)]
theorem tN(s p:List UInt8) (mem:Mem):ACallsTo Tryz.prog 219 [.str s,.str p] mem (.str (Lib.trimPrefix s p)) mem:=by
 have hG:aL Tryz.prog 219=some Tryz.f219:=by kernel_rfl
 refine aq fN (lv:=fun _=>[]) (K:=1) rfl rfl ?_ mem;cases h:Lib.hasPrefix s p with
 |false=>simp[aa,hG,Tryz.f219,af,dH,h,Lib.trimPrefix]
 |true=>
  have hle:p.length≤s.length:=(List.isPrefixOf_iff_prefix.1 h).length_le;simp[aa,hG,Tryz.f219,af,dH,h,Lib.trimPrefix,hle];rw[List.take_of_length_le (by simp)]
end Go.Proofs
