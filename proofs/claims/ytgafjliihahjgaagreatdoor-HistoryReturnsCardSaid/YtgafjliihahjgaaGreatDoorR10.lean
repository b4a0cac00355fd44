/- See R54. -/
import Derived.Test.YtgafjliihahjgaaGreatDoorR06
import Derived.Test.YtgafjliihahjgaaGreatDoorProg
import Derived.KernelRfl
import Derived.Lib.Strings
import Derived.Lib.Slices
import Derived.Lib.Walk
import Derived.Lib.Bytealg
import Derived.Lib.IndexLaws
set_option linter.all false
set_option maxRecDepth 100000
set_option maxHeartbeats 40000000
namespace Go.Proofs
open Go.Eng
open Tryz
theorem ae:prog.follows .mixedOrders=true:=by kernel_rfl
theorem lB(a b:ByteArray)(w:World):
  Calls prog 220 #[.string a,.string b] w fun e w' =>e=.returned (.int .i64 (Lib.compareBytes a.data.toList b.data.toList))∧w' =w:=by
 go_enter func220,ntmps220
 go_wp2
 rw[run_callFunc_extern func263 (by kernel_rfl) (by kernel_rfl) (by kernel_rfl) (e:=Extern.BytealgCompare.compare) (by kernel_rfl),Lib.run_compareString];simp only[Result.andThen];rw[Oper.upon_value]
 go_wp2
 go_ret
 exact⟨rfl,rfl⟩
theorem gQ(s:ByteArray)(c:Int)(w:World):
  Calls prog 257 #[.string s,.int .u8 c] w fun e w' =>e=.returned (.int .i64 (Lib.indexByte s.data.toList c.toNat.toUInt8))∧w' =w:=by
 go_enter func257,ntmps257
 go_wp2
 rw[run_callFunc_extern func285 (by kernel_rfl) (by kernel_rfl) (by kernel_rfl) (e:=Extern.BytealgIndexByte.indexByte) (by kernel_rfl),Lib.run_indexByteString];simp only[Result.andThen];rw[Oper.upon_value]
 go_wp2
 go_ret
 exact⟨rfl,rfl⟩
theorem lC(s:ByteArray)(c:UInt8)(w:World):
  Calls prog 216 #[.string s,.string ⟨#[c]⟩] w fun e w' =>e=.returned (.int .i64 (Lib.indexByte s.data.toList c))∧w' =w:=by
 go_enter func216,ntmps216
 go_wp2_with (go_at_call 257;refine(gQ _ _ _).mono ?_;rintro e w' ⟨rfl,rfl⟩)
 ·have h:([c]==s.toList)=true:=by assumption
  go_ret
  refine⟨?_,rfl⟩;have e:s.data.toList=[c]:=by rw[←Lib.toList_data];exact(beq_iff_eq.1 h).symm
  rw[e];simp[Lib.indexByte]
 ·go_ret
  exact⟨rfl,rfl⟩
theorem gG(f:FuncId){fn:Func}(h:prog.funcs[f]? =some fn)(hb:fn.body.isSome=true)(hn:(fn.name == "runtime.NumGoroutine")=false):Tp prog f:=⟨fn,h,hb,hn⟩
theorem kz(a b:List UInt8)(mem:Mem):kF prog 220 [.str a,.str b] mem (.int .i64 (Lib.compareBytes a b)) mem:=
 kF.afc (gG _ func220 (by kernel_rfl) (by kernel_rfl)) (Vs:=[.string ⟨a.toArray⟩,.string ⟨b.toArray⟩]) (fun μ n Us h=>by simpa [aeC,aeA] using h) (V:=.int .i64 (Lib.compareBytes a b)) (fun μ n=>by simp[aeA])
  (fun base w _=>(lB ⟨a.toArray⟩ ⟨b.toArray⟩ w).mono fun e w' ⟨h1,h2⟩=>⟨h1,h2▸ae4.refl w⟩) mem
theorem pe(s:List UInt8)(c:Nat)(mem:Mem):kF prog 257 [.str s,.int .u8 c] mem (.int .i64 (Lib.indexByte s c.toUInt8)) mem:=
 kF.afc (gG _ func257 (by kernel_rfl) (by kernel_rfl)) (Vs:=[.string ⟨s.toArray⟩,.int .u8 c]) (fun μ n Us h=>by simpa [aeC,aeA] using h) (V:=.int .i64 (Lib.indexByte s c.toUInt8)) (fun μ n=>by simp[aeA])
  (fun base w _=>(gQ ⟨s.toArray⟩ c w).mono fun e w' ⟨h1,h2⟩=>⟨by simpa using h1,h2▸ae4.refl w⟩) mem
theorem BY(s:List UInt8)(c:UInt8)(mem:Mem):kF prog 216 [.str s,.str [c]] mem (.int .i64 (Lib.indexByte s c)) mem:=
 kF.afc (gG _ func216 (by kernel_rfl) (by kernel_rfl)) (Vs:=[.string ⟨s.toArray⟩,.string ⟨#[c]⟩]) (fun μ n Us h=>by simpa [aeC,aeA] using h) (V:=.int .i64 (Lib.indexByte s c)) (fun μ n=>by simp[aeA])
  (fun base w _=>(lC ⟨s.toArray⟩ c w).mono fun e w' ⟨h1,h2⟩=>⟨h1,h2▸ae4.refl w⟩) mem
theorem L8:aM prog 3=some ⟨.int .i64,1,8,.int .i64 0,true⟩:=by kernel_rfl
theorem VG:aM prog 4=some ⟨.bool,1,1,.bool false,true⟩:=by kernel_rfl
theorem VH:aM prog 5=some ⟨.int .u8,1,1,.int .u8 0,true⟩:=by kernel_rfl
theorem VI:aM prog 9=some ⟨.string,1,16,.string ⟨#[]⟩,true⟩:=by kernel_rfl
theorem TJ:aM prog 22=some ⟨.int .i8,1,1,.int .i8 0,true⟩:=by kernel_rfl
theorem TM:aM prog 26=some ⟨.slice 94,1,24,.slice none 0 0,true⟩:=by kernel_rfl
theorem TO:aM prog 29=some ⟨.string,1,16,.string ⟨#[]⟩,true⟩:=by kernel_rfl
theorem TQ:aM prog 34=some ⟨.slice 101,1,24,.slice none 0 0,true⟩:=by kernel_rfl
theorem TR:aM prog 35=some ⟨.slice 148,1,24,.slice none 0 0,true⟩:=by kernel_rfl
theorem TU:aM prog 38=some ⟨.slice 83,1,24,.slice none 0 0,true⟩:=by kernel_rfl
theorem TW:aM prog 45=some ⟨.slice 3,1,24,.slice none 0 0,true⟩:=by kernel_rfl
theorem TZ:aM prog 57=some ⟨.slice 9,1,24,.slice none 0 0,true⟩:=by kernel_rfl
theorem T0:aM prog 65=some ⟨.slice 29,1,24,.slice none 0 0,true⟩:=by kernel_rfl
theorem T1:aM prog 66=some ⟨.slice 29,1,24,.slice none 0 0,true⟩:=by kernel_rfl
theorem T2:aM prog 67=some ⟨.slice 66,1,24,.slice none 0 0,true⟩:=by kernel_rfl
theorem T8:aM prog 74=some ⟨.slice 124,1,24,.slice none 0 0,true⟩:=by kernel_rfl
theorem Ru:aM prog 116=some ⟨.slice 119,1,24,.slice none 0 0,true⟩:=by kernel_rfl
theorem Rw:aM prog 125=some ⟨.slice 79,1,24,.slice none 0 0,true⟩:=by kernel_rfl
theorem Rx:aM prog 139=some ⟨.string,1,16,.string ⟨#[]⟩,true⟩:=by kernel_rfl
theorem Rz:aM prog 173=some ⟨.slice 31,1,24,.slice none 0 0,true⟩:=by kernel_rfl
theorem RA:aM prog 193=some ⟨.map 101 4,1,8,.map none,true⟩:=by kernel_rfl
theorem Jm:aM prog 252=some ⟨.map 119 3,1,8,.map none,true⟩:=by kernel_rfl
theorem Jn:aM prog 255=some ⟨.map 3 4,1,8,.map none,true⟩:=by kernel_rfl
theorem RD:aM prog 302=some ⟨.map 3 3,1,8,.map none,true⟩:=by kernel_rfl
attribute [simp] L8 VG VH VI TJ TM TO TQ TR TU
attribute [simp] TW TZ T0 T1 T2 T8 Ru Rw Rx Rz RA Jm Jn RD
noncomputable def qQ(f:FuncId) (args:List AV):Option AV:=
 match f,args with
 |220,[.str a,.str b]=>some (.int .i64 (Lib.compareBytes a b))
 |257,[.str s,.int .u8 c]=>if 0≤c then some (.int .i64 (Lib.indexByte s c.toNat.toUInt8)) else none
 |216,[.str s,.str [c]]=>some (.int .i64 (Lib.indexByte s c))
 |_,_=>none
theorem Gp:kP prog (ag qQ):=bK fun f args v h mem=>by
 unfold qQ at h;split at h
 ·cases h;exact kz _ _ mem
 ·split at h
  ·rename_i c hc
   cases h;have e:c=((c.toNat:Nat):Int):=by omega
   have:=pe ‹List UInt8› c.toNat mem;rw[←e] at this;exact this
  ·cases h
 ·cases h;exact BY _ _ mem
 ·cases h
variable{K:Nat}{O:adM}{args:List AV}{f:FuncId}{lv:Code→List Nat}{v:AV}
theorem az(hO:kP prog O)(ha:AV.aeG args=true)(hv:v.closed=true)(h:ad (aM prog) lv (aT prog) O K f args []=some ⟨v,none,[]⟩)(mem:Mem):kF prog f args mem v mem:=
 kF.agV ae (aq _) hO (au _) ha hv h mem
variable{mem:Mem}
theorem Rs(hO:kP prog O){new:Mem}(h:ad (aM prog) lv (aT prog) O K f args mem=some ⟨v,none,new⟩):kF prog f args mem v (mem++new):=
 (ak ae (aq _) hO (au _) h).1
theorem bB(hO:kP prog O)(h:ad (aM prog) lv (aT prog) O K f args mem=some ⟨v,none,[]⟩):kF prog f args mem v mem:=by simpa using Rs hO h
theorem Ix:aT prog 262=some f262:=by kernel_rfl
theorem ya(s p:List UInt8)(mem:Mem):kF prog 262 [.str s,.str p] mem (.bool (Lib.hasPrefix s p)) mem:=by
 refine az (ah _) (lv:=fun _=>[]) (K:=1) rfl rfl ?_ mem;rw[←Lib.hasPrefix_of_take];by_cases h:p.length≤s.length
 ·simp[ad,Ix,f262,h]
 ·simp[ad,Ix,f262,h]
theorem Iw:aT prog 141=some f141:=by kernel_rfl
theorem vV{s:List UInt8}{c:UInt8}{i:Nat}(h:Lib.indexByte s c=i):i<s.length:=by have:=(Lib.indexByte_some h).1;exact(gL this)
theorem NY(s:List UInt8)(c:UInt8)(mem:Mem)(hl:s.length≤1000000000):kF prog 141 [.str s,.str [c]] mem (if 0≤Lib.indexByte s c then .tuple [.str (s.take (Lib.indexByte s c).toNat),.str (s.drop ((Lib.indexByte s c).toNat+1)),.bool true] else .tuple [.str s,.str [],.bool false]) mem:=by
 refine az Gp (lv:=fun _=>[]) (K:=1) rfl (by split<;>rfl) ?_ mem;by_cases h:0≤Lib.indexByte s c
 ·obtain⟨i,hi⟩:∃i:Nat,Lib.indexByte s c=i:=⟨_,(Int.toNat_of_nonneg h).symm⟩
  have A':=vV hi;have h1:(i:Int)≤s.length:=by omega
  have h2:IntKind.i64.wrap ((i:Int)+1)=(i:Int)+1:=al (by omega) (by omega);have h3:(i:Int)+1≤s.length:=by omega
  have h4:((i:Int)+1).toNat=i+1:=by omega
  have h5:(0:Int)≤(i:Int)+1:=by omega
  simp[ad,Iw,f141,hi,ag,qQ,h1,h2,h3,h4,h5];rw[List.take_of_length_le (by simp)]
 ·simp[ad,Iw,f141,h,ag,qQ]
noncomputable def ez(f:FuncId) (args:List AV):Option AV:=
 match f,args with
 |220,[.str a,.str b]=>some (.int .i64 (Lib.compareBytes a b))
 |257,[.str s,.int .u8 c]=>if 0≤c then some (.int .i64 (Lib.indexByte s c.toNat.toUInt8)) else none
 |262,[.str s,.str p]=>some (.bool (Lib.hasPrefix s p))
 |141,[.str s,.str [c]]=>if s.length≤1000000000 then some (if 0≤Lib.indexByte s c then .tuple [.str (s.take (Lib.indexByte s c).toNat),.str (s.drop ((Lib.indexByte s c).toNat+1)),.bool true] else .tuple [.str s,.str [],.bool false]) else none
 |_,_=>none
theorem gF:kP prog (ag ez):=bK fun f args v h mem=>by
 unfold ez at h;split at h
 ·cases h;exact kz _ _ mem
 ·split at h
  ·rename_i c hc
   cases h;have e:c=((c.toNat:Nat):Int):=by omega
   have:=pe ‹List UInt8› c.toNat mem;rw[←e] at this;exact this
  ·cases h
 ·cases h;exact ya _ _ mem
 ·split at h
  ·rename_i hl;cases h;exact NY _ _ mem hl
  ·cases h
 ·cases h
theorem zz(s p:List UInt8)(mem:Mem):kF prog 218 [.str s,.str p] mem (.bool (Lib.hasPrefix s p)) mem:=by
 have hG:aT prog 218=some f218:=by kernel_rfl
 refine az gF (lv:=fun _=>[]) (K:=1) rfl rfl ?_ mem;simp[ad,hG,f218,ag,ez]
theorem DT(s p:List UInt8)(mem:Mem):kF prog 145 [.str s,.str p] mem (.int .i64 (Lib.compareBytes s p)) mem:=by
 have hG:aT prog 145=some f145:=by kernel_rfl
 refine az gF (lv:=fun _=>[]) (K:=1) rfl rfl ?_ mem;simp[ad,hG,f145,ag,ez]
theorem yc(s:List UInt8)(c:Int)(hc:0≤c)(mem:Mem):kF prog 209 [.str s,.int .u8 c] mem (.int .i64 (Lib.indexByte s c.toNat.toUInt8)) mem:=by
 have hG:aT prog 209=some f209:=by kernel_rfl
 refine az gF (lv:=fun _=>[]) (K:=1) rfl rfl ?_ mem;simp[ad,hG,f209,ag,ez,hc]
theorem Qi(s:List UInt8)(c:UInt8)(mem:Mem)(hl:s.length≤1000000000):kF prog 93 [.str s,.str [c]] mem (if 0≤Lib.indexByte s c then .tuple [.str (s.take (Lib.indexByte s c).toNat),.str (s.drop ((Lib.indexByte s c).toNat+1)),.bool true] else .tuple [.str s,.str [],.bool false]) mem:=by
 have hG:aT prog 93=some f93:=by kernel_rfl
 refine az gF (lv:=fun _=>[]) (K:=1) rfl (by split<;>rfl) ?_ mem;by_cases h:0≤Lib.indexByte s c
 ·simp[ad,hG,f93,ag,ez,hl,h]
 ·simp[ad,hG,f93,ag,ez,hl,h]
theorem xV(s p:List UInt8)(mem:Mem):kF prog 217 [.str s,.str p] mem (.tuple [.str (Lib.trimPrefix s p),.bool (Lib.hasPrefix s p)]) mem:=by
 have hG:aT prog 217=some f217:=by kernel_rfl
 refine az gF (lv:=fun _=>[]) (K:=1) rfl rfl ?_ mem;cases h:Lib.hasPrefix s p with
 |false=>simp[ad,hG,f217,ag,ez,h,Lib.trimPrefix]
 |true=>
  have X7:p.length≤s.length:=(List.isPrefixOf_iff_prefix.1 h).length_le;simp[ad,hG,f217,ag,ez,h,Lib.trimPrefix,X7];rw[List.take_of_length_le (by simp)]
theorem vN(s p:List UInt8)(mem:Mem):kF prog 219 [.str s,.str p] mem (.str (Lib.trimPrefix s p)) mem:=by
 have hG:aT prog 219=some f219:=by kernel_rfl
 refine az gF (lv:=fun _=>[]) (K:=1) rfl rfl ?_ mem;cases h:Lib.hasPrefix s p with
 |false=>simp[ad,hG,f219,ag,ez,h,Lib.trimPrefix]
 |true=>
  have X7:p.length≤s.length:=(List.isPrefixOf_iff_prefix.1 h).length_le;simp[ad,hG,f219,ag,ez,h,Lib.trimPrefix,X7];rw[List.take_of_length_le (by simp)]
end Go.Proofs
