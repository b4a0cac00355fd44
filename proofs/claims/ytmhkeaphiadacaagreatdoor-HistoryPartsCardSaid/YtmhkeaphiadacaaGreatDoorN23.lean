/- See N58. -/
import Derived.Test.YtmhkeaphiadacaaGreatDoorN21
import Derived.Test.YtmhkeaphiadacaaGreatDoorN22
import Derived.Test.YtmhkeaphiadacaaGreatDoorN08
import Derived.Shelf.Strings.Builder1
set_option linter.all false
namespace Go.Proofs
open Go.Eng Go.Shelf Go.RowKit Go.Sort
theorem G6{P:Program}{e:TypeId}{n s d:Nat}(hd:P.depth=d+1) (hs:P.cellsOf e=s+1) (hl:sameLayout P P.depth e e=true) (hn:1≤n):liesAt P P.depth e n 0 e 1=true:=by
 rw[hd] at hl
 simp[hd,liesAt,rowAt,hs,hl,hn]
theorem vD(n:Nat) (hn:1≤n):liesAt Tryz.prog Tryz.prog.depth 314 n 0 314 1=true:=
 G6 (s:=1) (d:=Tryz.prog.depth-1) (by kernel_rfl) (by kernel_rfl) (by kernel_rfl) hn
theorem tw:Tryz.prog.cellsOf 314=2:=by kernel_rfl
theorem nD:(Tryz.prog.info? 314).map (·.size)=some 2:=by kernel_rfl
set_option maxHeartbeats 1000000 in
set_option maxRecDepth 100000 in
theorem qv(b:Nat) (w:World) (h0:w.cell? ⟨b,0,none⟩=some (.pointer (some ⟨b,0,none⟩))):
  Calls Tryz.prog 269 #[.pointer (some ⟨b,0,none⟩)] w fun e w' =>e=.returned (.tuple #[])∧w' =w:=by
 obtain⟨j,hj,_⟩:=Option.map_eq_some_iff.1 nD
 go_enter Tryz.func269,Tryz.ntmps269
 go_wp2
 rw[Lib.run_neq_ptr_same w _ (tp:=312) (te:=314) (by kernel_rfl) hj]
 go_wp2
 go_end0
 exact⟨rfl,rfl⟩
set_option maxHeartbeats 1000000 in
set_option maxRecDepth 100000 in
theorem pT(b:Nat) (w:World) (h0:w.cell? ⟨b,0,none⟩=some (.pointer none)) (n:Nat) (hn:2≤n) (hsh:w.shape? b=some (314,n)) (hfz:w.frozen? ⟨b,0,none⟩=false):
  Calls Tryz.prog 269 #[.pointer (some ⟨b,0,none⟩)] w fun e w' =>e=.returned (.tuple #[])∧w' =w.setCell ⟨b,0,none⟩ (.pointer (some ⟨b,0,none⟩)):=by
 obtain⟨j,hj,hjs⟩:=Option.map_eq_some_iff.1 nD
 have tp:Tryz.prog.underlying 312=some (.pointer 314):=by kernel_rfl
 have tu:Tryz.prog.underlying 346=some .unsafePointer:=by kernel_rfl
 go_enter Tryz.func269,Tryz.ntmps269
 go_wp2
 rw[Lib.run_to_unsafe w ⟨b,0,none⟩ tp tu hj (by rw[hjs];decide) hsh (Nat.lt_of_lt_of_le (Nat.zero_lt_succ 1) hn)]
 simp only[Result.andThen]
 rw[Oper.upon_value]
 go_wp2
 rw[run_callFunc_extern Tryz.func281 (by kernel_rfl) (by kernel_rfl) (by kernel_rfl) (e:=Extern.AbiNoEscape.same) (by kernel_rfl)]
 rw[Lib.run_noEscape]
 simp only[Result.andThen]
 rw[Oper.upon_value]
 go_wp2
 rw[Lib.run_from_unsafe w ⟨b,0,none⟩ tu tp hj hsh (vD _ (by rw[tw];omega))]
 simp only[Result.andThen]
 rw[Oper.upon_value]
 go_wp2
 go_end0
 exact⟨rfl,rfl⟩
abbrev lY:Nat:=1000*(314+1)
theorem pS(mem:Mem) (b:Nat) (sl:AV) (hb:mem[b]? =some (.cells true lY [.ptr b 0,sl])):
  ACallsTo Tryz.prog 269 [.ptr b 0] mem (.tuple []) mem:=by
 refine⟨fv _ Tryz.func269 (by kernel_rfl) (by kernel_rfl),fun base μ w Vs hG hH hV=>?_⟩
 obtain⟨X,_,rfl,hV,rfl⟩:=hV
 simp only[VRel] at hV
 have hs:=hH.slot b _ hb
 simp only[SRel] at hs
 obtain⟨cur,el,fr,g1,g2,g3,g4,g5⟩:=hs
 obtain⟨g6,g7,g8,g9⟩:=g5 trivial
 obtain⟨V,hV0,hr⟩:=g4 0 _ rfl
 simp only[VRel] at hr
 obtain⟨hbn,rfl⟩:=hV
 rw[g6] at hr hV0
 rw[g6]
 obtain⟨_,rfl⟩:=hr
 refine(qv (μ b).blk w (by simp only[World.cell?,g1];exact hV0)).mono ?_
 rintro e w' ⟨rfl,rfl⟩
 exact⟨_,_,_,μ,rfl,by simp[VRel,VRels],hH,.refl (Nat.le_refl _),rfl,rfl⟩
theorem nU(mem:Mem) (b:Nat) (sl:AV) (hb:mem[b]? =some (.cells true lY [.nilptr,sl])):
  ACallsTo Tryz.prog 269 [.ptr b 0] mem (.tuple []) (mem.set b (.cells true lY [.ptr b 0,sl])):=by
 refine⟨fv _ Tryz.func269 (by kernel_rfl) (by kernel_rfl),fun base μ w Vs hG hH hV=>?_⟩
 obtain⟨X,_,rfl,hV,rfl⟩:=hV
 simp only[VRel] at hV
 have hs:=hH.slot b _ hb
 simp only[SRel] at hs
 obtain⟨cur,el,fr,g1,g2,g3,g4,g5⟩:=hs
 obtain⟨g6,rfl,g8,g9⟩:=g5 trivial
 obtain⟨V,hV0,hr⟩:=g4 0 _ rfl
 obtain⟨V1,hV1,hr1⟩:=g4 1 _ rfl
 simp only[VRel] at hr
 obtain⟨hbn,rfl⟩:=hV
 rw[g6] at hV0 hV1
 rw[g6]
 subst hr
 have hel:el=314:=by
  have:=g2.2 (by decide)
  exact Nat.succ.inj this
 subst hel
 have hc0:w.cell? ⟨(μ b).blk,0,none⟩=some (.pointer none):=by simp only[World.cell?,g1];exact hV0
 have hsz:cur.size=2∨2<cur.size:=by simp only[List.length_cons,List.length_nil] at g3;omega
 refine(pT (μ b).blk w hc0 cur.size (by omega) (by simp only[World.shape?,g1]) (by simp[World.frozen?,g1])).mono ?_
 rintro e w' ⟨rfl,rfl⟩
 obtain⟨k1,k2⟩:=hH.write (w' :=w.setCell ⟨(μ b).blk,0,none⟩ (.pointer (some ⟨(μ b).blk,0,none⟩))) (s' :=.cells true lY [.ptr b 0,sl]) hb (gR hb) (fun _=>⟨_,List.getElem?_set_self (List.getElem?_eq_some_iff.1 hb).1,rfl⟩) rfl rfl rfl rfl (by simp[World.setCell]) (fun k hk=>by simp[World.setCell,Array.getElem?_modify,Ne.symm hk]) (by
  simp only[SRel]
  refine⟨cur.setIfInBounds 0 (.pointer (some ⟨(μ b).blk,0,none⟩)),314,(0,0),by simp[World.setCell,Array.getElem?_modify,g1],g2,g3,fun j v hv=>?_,fun _=>⟨g6,rfl,by simpa using g8,g9⟩⟩
  match j,hv with
  |0,hv=>
   simp at hv;subst hv
   refine⟨.pointer (some ⟨(μ b).blk,0,none⟩),?_,by simp[VRel,hbn,g6]⟩
   rw[g6]
   have:0<cur.size:=by omega
   simp[this]
  |1,hv=>
   simp at hv;subst hv
   refine⟨V1,?_,hr1⟩
   rw[g6]
   simpa using hV1
  |j+2,hv=>simp at hv)
 exact⟨_,_,_,μ,rfl,by simp[VRel,VRels],k1,k2,rfl,rfl⟩
end Go.Proofs
