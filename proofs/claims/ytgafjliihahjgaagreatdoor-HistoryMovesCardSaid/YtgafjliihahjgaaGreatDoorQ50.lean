/- See Q54. -/
import Derived.Test.YtgafjliihahjgaaGreatDoorQ49
set_option linter.all false
namespace Go.Proofs
open Go.Eng
noncomputable def mvL(ar:Bool):List EvD→V3→V3
 | [],p=>p
 |w::l,p=>mvL ar l (w.mv ar p)
def dnK:Nat→Nat
 |0=>4
 |k+1=>20*dnK k
def vlK:Nat→Nat
 |0=>71
 |k+1=>2*vlK k+20
def plK(k:Nat) (p:V3):Prop:=vSm (dnK k) (vlK k) p
theorem nh{s:Sheet}{w:EvD}{k:Nat}{p:V3}(hw:w.Ok s) (ar:Bool) (h:plK k p) (hk:k<3):plK (k+1) (w.mv ar p):=by
 have:k=0∨k=1∨k=2:=by omega
 rcases this with rfl | rfl | rfl<;>exact TH hw ar h (by decide) (by decide)
theorem qd{k:Nat}{p:V3}(h:plK k p) (hk:k≤3):vC p:=by
 have:k=0∨k=1∨k=2∨k=3:=by omega
 rcases this with rfl | rfl | rfl | rfl<;>exact vSm.vC h (by decide) (by decide)
section
variable {s:Sheet}{p t q:Nat}{evs:List (List AV)}{cs:List Evc}{M:Mem}
theorem Tryz.HstC.evds(H:Tryz.HstC s p t q evs cs M):∃ws:List EvD,ws.length=cs.length∧∀(i:Nat) c w,cs[i]? =some c→ws[i]? =some w→w.Ok s∧c=w.con c.nm:=
 yM (P:=fun _ c w=>EvD.Ok s w∧c=w.con c.nm) cs fun i c hc=>(H.good c (List.mem_of_getElem? hc)).evd
theorem Tryz.HstC.mvAt(H:Tryz.HstC s p t q evs cs M) {ws:List EvD}(hw:∀(i:Nat) c w,cs[i]? =some c→ws[i]? =some w→w.Ok s∧c=w.con c.nm) {i:Nat}{ev:List AV}{w:EvD}(h1:evs[i]? =some ev) (h2:ws[i]? =some w) (ar:Bool) {k:Nat}{v:V3}(hv:plK k v) (hk:k<3) (X:Mem):
  ACallsTo Tryz.prog 52 [.agg ev,vA v,.bool ar] (M++X) (vA (w.mv ar v)) (M++X):=by
 have hl:=(List.getElem?_eq_some_iff.1 h1).1;obtain⟨c,hc⟩:∃c,cs[i]? =some c:=⟨_,List.getElem?_eq_getElem (by rw[←H.len];exact hl)⟩
 obtain⟨o1,o2⟩:=hw i c w hc h2;have hE:=(H.more X).con i ev c h1 hc;rw[o2] at hE;have:k=0∨k=1∨k=2:=by omega
 rcases this with rfl | rfl | rfl<;>exact D4 hE o1 ar hv (by decide) (by decide)
theorem Tryz.HstC.undoAt(H:Tryz.HstC s p t q evs cs M) {ws:List EvD}(hw:∀(i:Nat) c w,cs[i]? =some c→ws[i]? =some w→w.Ok s∧c=w.con c.nm) {i:Nat}{ev:List AV}{w:EvD}(h1:evs[i]? =some ev) (h2:ws[i]? =some w) (ar:Bool) {k:Nat}{v:V3}(hv:plK k v) (hk:k<3) (X:Mem):
  ACallsTo Tryz.prog (if ar then 20 else 21) [shB s p t,.agg ev,vA v] (M++X) (.tuple [vA (w.mv ar v),.int .i64 0]) (M++X):=by
 have hl:=(List.getElem?_eq_some_iff.1 h1).1;obtain⟨c,hc⟩:∃c,cs[i]? =some c:=⟨_,List.getElem?_eq_getElem (by rw[←H.len];exact hl)⟩
 obtain⟨o1,o2⟩:=hw i c w hc h2;have hE:=(H.more X).con i ev c h1 hc;have hC:=(H.good c (List.mem_of_getElem? hc)).chk;rw[o2] at hE hC;obtain⟨_,m1⟩:=(H.more X).hp;obtain⟨_,m2⟩:=(H.more X).ht;have:k=0∨k=1∨k=2:=by omega
 rcases this with rfl | rfl | rfl<;>exact DV hE hC o1 ar hv (by decide) (by decide) m1 m2
theorem gV(H:Tryz.HstC s p t q evs cs M) (hd:tn [ba] (cs.map unE)=false) {v:V3}(hv:vC v):ACallsTo Tryz.prog 29 [.agg (aR s p t q cs.length),vA v] M (.int .i64 0) M:=by
 have hG:aL Tryz.prog 29=some Tryz.f29:=by kernel_rfl
 obtain⟨h1,h2,h3,h4⟩:=hv;have hO:OracleOk Tryz.prog (Oracle.or (cw 35 [.agg (aR s p t q cs.length)] (.int .i64 0) (fun N=>∃Z,N=M++Z)) (af aX)):=OracleOk.or (cS fun N ⟨Z,hZ⟩=>by
  subst hZ;have:=(H.more Z).chk
  rwa [hd] at this) cM
 unfold aR at hO ⊢;obtain⟨E,hE⟩:∃E,E=evV q cs.length:=⟨_,rfl⟩
 have hck:E.cellOk=true:=by rw[hE];exact eG _ _
 rw[←hE] at hO ⊢;have h:aa (aM Tryz.prog) (fun _=>[]) (aL Tryz.prog) (Oracle.or (cw 35 [.agg [.slice p 0 s.P.length none,.slice t 0 s.T.length none,.str ba,E]] (.int .i64 0) (fun N=>∃Z,N=M++Z)) (af aX)) 1 29 [.agg [.slice p 0 s.P.length none,.slice t 0 s.T.length none,.str ba,E],vA v] M=some ⟨.int .i64 0,none,[]⟩:=by
  clear hO;have hcs:∀s,(AV.str s).cellOk=true:=fun _=>rfl
  have hcl:∀b o n c,(AV.slice b o n c).cellOk=true:=fun _ _ _ _=>rfl
  simp[-AV.cellOk,aa,hG,Tryz.f29,Oracle.or,cw,af,aX,vA,h1,h2,h3,h4]
 have:=(al ae (aw _) hO (az _) h).1;simpa [CallRes.mem] using this
end
end Go.Proofs
namespace Go.Proofs
open Go.Eng
def Is:AV:=.agg [.str [],.str [],.str []]
theorem mY{e:List AV}(h:∀x∈e,x.cellOk=true):e.all AV.cellOk=true:=List.all_eq_true.2 h
section
variable {s:Sheet}{p t q:Nat}{evs:List (List AV)}{cs:List Evc}{M:Mem}{ws:List EvD}{v:V3}
set_option maxRecDepth 8192 in
set_option maxHeartbeats 3200000 in
theorem Mw(H:Tryz.HstC s p t q evs cs M) (hd:tn [ba] (cs.map unE)=false) (hw:∀(i:Nat) c w,cs[i]? =some c→ws[i]? =some w→w.Ok s∧c=w.con c.nm) (ar:Bool) (hv:plK 0 v) {i:Nat}(hn:cs.length=i+1) {ja:Nat}{f0:List AV}{u0:EvD}(i0:evs[ja]? =some f0) (y0:ws[ja]? =some u0) (hD:(evs.flatten.drop (i*32)).take (1*32)=f0):
  ACallsTo Tryz.prog 31 [.agg (aR s p t q cs.length),vA v,.int .i64 i,.bool ar] M (.tuple [vA (u0.mv ar v),.int .i64 0]) M:=by
 have n4:=H.small;obtain⟨o,hq⟩:=H.hq (by rintro rfl;have:=H.len;simp at this;omega);have lq:=(List.getElem?_eq_some_iff.1 hq).1;have hq' :∀Z,(M++Z)[q]? =some (.cells o 32 evs.flatten):=fun Z=>by rw[List.getElem?_append_left lq];exact hq
 have hfl:=H.flat
 have hev:evV q cs.length=.slice q 0 cs.length none:=by unfold evV;rw[if_neg (by omega)]
 have l0:=H.l32 f0 (List.mem_of_getElem? i0);have k0:=H.cok f0 (List.mem_of_getElem? i0);obtain⟨c0,z0⟩:∃c,cs[ja]? =some c:=⟨_,List.getElem?_eq_getElem (by rw[←H.len];exact(List.getElem?_eq_some_iff.1 i0).1)⟩
 have g0:=hw _ c0 u0 z0 y0;have p1:=nh (k:=0) g0.1 ar hv (by decide);obtain⟨L,hL⟩:∃L:List (FuncId×List AV×(Mem→Prop)×CallRes),L=[(29,[.agg (aR s p t q cs.length),vA v],(fun N=>N=M++[.cells true 0 (aR s p t q cs.length),.cells true 0 (vL v),.cells true 0 [.str [],.str [],.str []]]),⟨.int .i64 0,none,[]⟩),
  (53,[.slice q (i*32) 1 none],(fun N=>N=M++[.cells true 0 (aR s p t q cs.length),.cells true 0 (vL v),.cells true 0 [.str [],.str [],.str []]]),⟨.slice (M.length+4) 0 1 none,none,[.absent,.cells true 32 f0]⟩),
  (54,[.slice (M.length+4) 0 1 none],(fun _=>True),⟨.tuple [],none,[]⟩),
  (52,[.agg f0,vA v,.bool ar],(fun N=>(∃X,N=M++X)∧N.length=M.length+6),⟨vA (u0.mv ar v),none,[]⟩),
  (14,[vA (u0.mv ar v)],(fun _=>True),⟨.int .i64 0,none,[]⟩)]:=⟨_,rfl⟩
 have hO:OracleOk Tryz.prog (cv L):=gk fun y hy N hp=>by
  rw[hL] at hy;simp only[List.mem_cons,List.not_mem_nil,or_false] at hy;rcases hy with rfl | rfl | rfl | rfl | rfl
  ·subst hp
   exact ag (by simpa using gV (H.more _) hd (qd hv (by decide)))
  ·subst hp
   have:=Cy (M:=M++[.cells true 0 (aR s p t q cs.length),.cells true 0 (vL v),.cells true 0 [.str [],.str [],.str []]]) (i:=i) (k:=1) (hq' _) (by rw[hfl];omega) (by decide) (by decide) (JT H.cok);have hl3:List.length (M++[.cells true 0 (aR s p t q cs.length),.cells true 0 (vL v),.cells true 0 [.str [],.str [],.str []]]:Mem)+1=M.length+4:=by simp
   rw[hD,hl3] at this;exact ag this
  ·exact ag (by simpa using AI (N:=N) (b:=M.length+4) (k:=1) (by decide))
  ·obtain⟨⟨X,rfl⟩,_⟩:=hp
   exact ag (by simpa using H.mvAt hw i0 y0 ar (k:=0) hv (by decide) X)
  ·exact ag (by simpa using gJ (qd p1 (by decide)) N)
 have e1:cv L (.fn 29) [.agg (aR s p t q cs.length),vA v] (M++[.cells true 0 (aR s p t q cs.length),.cells true 0 (vL v),.cells true 0 [.str [],.str [],.str []]])=some ⟨.int .i64 0,none,[]⟩:=by rw[hL];exact aQ rfl
 have e2:cv L (.fn 53) [.slice q (i*32) 1 none] (M++[.cells true 0 (aR s p t q cs.length),.cells true 0 (vL v),.cells true 0 [.str [],.str [],.str []]])=some ⟨.slice (M.length+4) 0 1 none,none,[.absent,.cells true 32 f0]⟩:=by rw[hL,ak (.inl (by decide))];exact aQ rfl
 have e3:∀N,cv L (.fn 54) [.slice (M.length+4) 0 1 none] N=some ⟨.tuple [],none,[]⟩:=fun N=>by rw[hL,ak (.inl (by decide)),ak (.inl (by decide))];exact aQ trivial
 have q0:∀X:Mem,X.length=6→cv L (.fn 52) [.agg f0,vA v,.bool ar] (M++X)=some ⟨vA (u0.mv ar v),none,[]⟩:=fun X hX=>by rw[hL,ak (.inl (by decide)),ak (.inl (by decide)),ak (.inl (by decide))];exact aQ ⟨⟨_,rfl⟩,by rw[List.length_append,hX]⟩
 have e5:∀N,cv L (.fn 14) [vA (u0.mv ar v)] N=some ⟨.int .i64 0,none,[]⟩:=fun N=>by rw[hL,ak (.inl (by decide)),ak (.inl (by decide)),ak (.inl (by decide)),ak (.inl (by decide))];exact aQ trivial
 obtain⟨new,h⟩:=GR (O:=cv L) (M:=M) (D:=[]) ar rfl rfl (eG q cs.length) hev (by omega) (by omega) hq' (by rw[hfl];omega) e1 e2 e3 q0 e5 l0 (mY k0);exact ACallsTo.forget rfl (bZ ae (aw _) hO (az _) h)
set_option maxRecDepth 8192 in
set_option maxHeartbeats 3200000 in
theorem A6(H:Tryz.HstC s p t q evs cs M) (hd:tn [ba] (cs.map unE)=false) (hw:∀(i:Nat) c w,cs[i]? =some c→ws[i]? =some w→w.Ok s∧c=w.con c.nm) (ar:Bool) (hv:plK 0 v) {i:Nat}(hn:cs.length=i+2) {ja:Nat}{f0:List AV}{u0:EvD}(i0:evs[ja]? =some f0) (y0:ws[ja]? =some u0) {jb:Nat}{f1:List AV}{u1:EvD}(i1:evs[jb]? =some f1) (y1:ws[jb]? =some u1) {D:List AV}(hD:(evs.flatten.drop (i*32)).take (2*32)=D) (hb:ar=true→D=f1++f0) (hf:ar=false→D=f0++f1):
  ACallsTo Tryz.prog 31 [.agg (aR s p t q cs.length),vA v,.int .i64 i,.bool ar] M (.tuple [vA (u1.mv ar (u0.mv ar v)),.int .i64 0]) M:=by
 have n4:=H.small;obtain⟨o,hq⟩:=H.hq (by rintro rfl;have:=H.len;simp at this;omega);have lq:=(List.getElem?_eq_some_iff.1 hq).1;have hq' :∀Z,(M++Z)[q]? =some (.cells o 32 evs.flatten):=fun Z=>by rw[List.getElem?_append_left lq];exact hq
 have hfl:=H.flat
 have hev:evV q cs.length=.slice q 0 cs.length none:=by unfold evV;rw[if_neg (by omega)]
 have l0:=H.l32 f0 (List.mem_of_getElem? i0);have k0:=H.cok f0 (List.mem_of_getElem? i0);obtain⟨c0,z0⟩:∃c,cs[ja]? =some c:=⟨_,List.getElem?_eq_getElem (by rw[←H.len];exact(List.getElem?_eq_some_iff.1 i0).1)⟩
 have g0:=hw _ c0 u0 z0 y0;have p1:=nh (k:=0) g0.1 ar hv (by decide);have l1:=H.l32 f1 (List.mem_of_getElem? i1);have k1:=H.cok f1 (List.mem_of_getElem? i1);obtain⟨c1,z1⟩:∃c,cs[jb]? =some c:=⟨_,List.getElem?_eq_getElem (by rw[←H.len];exact(List.getElem?_eq_some_iff.1 i1).1)⟩
 have g1:=hw _ c1 u1 z1 y1;have p2:=nh (k:=1) g1.1 ar p1 (by decide);obtain⟨L,hL⟩:∃L:List (FuncId×List AV×(Mem→Prop)×CallRes),L=[(29,[.agg (aR s p t q cs.length),vA v],(fun N=>N=M++[.cells true 0 (aR s p t q cs.length),.cells true 0 (vL v),.cells true 0 [.str [],.str [],.str []]]),⟨.int .i64 0,none,[]⟩),
  (53,[.slice q (i*32) 2 none],(fun N=>N=M++[.cells true 0 (aR s p t q cs.length),.cells true 0 (vL v),.cells true 0 [.str [],.str [],.str []]]),⟨.slice (M.length+4) 0 2 none,none,[.absent,.cells true 32 D]⟩),
  (54,[.slice (M.length+4) 0 2 none],(fun N=>N=M++[.cells true 0 (aR s p t q cs.length),.cells true 0 (vL v),.cells true 0 [.str [],.str [],.str []],.absent,.cells true 32 D]∧ar=true),⟨.tuple [],some (M++[.cells true 0 (aR s p t q cs.length),.cells true 0 (vL v),.cells true 0 [.str [],.str [],.str []],.absent,.cells true 32 (f0++f1)]),[]⟩),
  (52,[.agg f0,vA v,.bool ar],(fun N=>(∃X,N=M++X)∧N.length=M.length+6),⟨vA (u0.mv ar v),none,[]⟩),
  (52,[.agg f1,vA (u0.mv ar v),.bool ar],(fun N=>(∃X,N=M++X)∧N.length=M.length+7),⟨vA (u1.mv ar (u0.mv ar v)),none,[]⟩),
  (14,[vA (u1.mv ar (u0.mv ar v))],(fun _=>True),⟨.int .i64 0,none,[]⟩)]:=⟨_,rfl⟩
 have hO:OracleOk Tryz.prog (cv L):=gk fun y hy N hp=>by
  rw[hL] at hy;simp only[List.mem_cons,List.not_mem_nil,or_false] at hy;rcases hy with rfl | rfl | rfl | rfl | rfl | rfl
  ·subst hp
   exact ag (by simpa using gV (H.more _) hd (qd hv (by decide)))
  ·subst hp
   have:=Cy (M:=M++[.cells true 0 (aR s p t q cs.length),.cells true 0 (vL v),.cells true 0 [.str [],.str [],.str []]]) (i:=i) (k:=2) (hq' _) (by rw[hfl];omega) (by decide) (by decide) (JT H.cok);have hl3:List.length (M++[.cells true 0 (aR s p t q cs.length),.cells true 0 (vL v),.cells true 0 [.str [],.str [],.str []]]:Mem)+1=M.length+4:=by simp
   rw[hD,hl3] at this;exact ag this
  ·obtain⟨rfl,hbk⟩:=hp
   have hr:(M++[.cells true 0 (aR s p t q cs.length),.cells true 0 (vL v),.cells true 0 [.str [],.str [],.str []],.absent,.cells true 32 D])[M.length+4]? =some (.cells true 32 (f1++f0)):=by rw[kF,hb hbk];rfl
   have:=LD l1 l0 k1 k0 ((H.more _).con _ f1 c1 i1 z1 |>.refs 0) ((H.more _).con _ f0 c0 i0 z0 |>.refs 0) hr;rw[Dj] at this;exact⟨by simpa [CallRes.mem] using this,fun x hx=>by cases hx;simp⟩
  ·obtain⟨⟨X,rfl⟩,_⟩:=hp
   exact ag (by simpa using H.mvAt hw i0 y0 ar (k:=0) hv (by decide) X)
  ·obtain⟨⟨X,rfl⟩,_⟩:=hp
   exact ag (by simpa using H.mvAt hw i1 y1 ar (k:=1) p1 (by decide) X)
  ·exact ag (by simpa using gJ (qd p2 (by decide)) N)
 have e1:cv L (.fn 29) [.agg (aR s p t q cs.length),vA v] (M++[.cells true 0 (aR s p t q cs.length),.cells true 0 (vL v),.cells true 0 [.str [],.str [],.str []]])=some ⟨.int .i64 0,none,[]⟩:=by rw[hL];exact aQ rfl
 have e2:cv L (.fn 53) [.slice q (i*32) 2 none] (M++[.cells true 0 (aR s p t q cs.length),.cells true 0 (vL v),.cells true 0 [.str [],.str [],.str []]])=some ⟨.slice (M.length+4) 0 2 none,none,[.absent,.cells true 32 D]⟩:=by rw[hL,ak (.inl (by decide))];exact aQ rfl
 have e3:ar=true→cv L (.fn 54) [.slice (M.length+4) 0 2 none] (M++[.cells true 0 (aR s p t q cs.length),.cells true 0 (vL v),.cells true 0 [.str [],.str [],.str []],.absent,.cells true 32 D])=some ⟨.tuple [],some (M++[.cells true 0 (aR s p t q cs.length),.cells true 0 (vL v),.cells true 0 [.str [],.str [],.str []],.absent,.cells true 32 (f0++f1)]),[]⟩:=fun hbk=>by rw[hL,ak (.inl (by decide)),ak (.inl (by decide))];exact aQ ⟨rfl,hbk⟩
 have q0:∀X:Mem,X.length=6→cv L (.fn 52) [.agg f0,vA v,.bool ar] (M++X)=some ⟨vA (u0.mv ar v),none,[]⟩:=fun X hX=>by rw[hL,ak (.inl (by decide)),ak (.inl (by decide)),ak (.inl (by decide))];exact aQ ⟨⟨_,rfl⟩,by rw[List.length_append,hX]⟩
 have q1:∀X:Mem,X.length=7→cv L (.fn 52) [.agg f1,vA (u0.mv ar v),.bool ar] (M++X)=some ⟨vA (u1.mv ar (u0.mv ar v)),none,[]⟩:=fun X hX=>by rw[hL,ak (.inl (by decide)),ak (.inl (by decide)),ak (.inl (by decide)),ak (.inr (by intro h;have:=h.2;rw[List.length_append] at this;omega))];exact aQ ⟨⟨_,rfl⟩,by rw[List.length_append,hX]⟩
 have e5:∀N,cv L (.fn 14) [vA (u1.mv ar (u0.mv ar v))] N=some ⟨.int .i64 0,none,[]⟩:=fun N=>by rw[hL,ak (.inl (by decide)),ak (.inl (by decide)),ak (.inl (by decide)),ak (.inl (by decide)),ak (.inl (by decide))];exact aQ trivial
 obtain⟨new,h⟩:=GS (O:=cv L) (M:=M) ar rfl rfl (eG q cs.length) hev (by omega) (by omega) hq' (by rw[hfl];omega) e1 e2 e3 hf q0 q1 e5 l0 (mY k0) l1 (mY k1);exact ACallsTo.forget rfl (bZ ae (aw _) hO (az _) h)
set_option maxRecDepth 8192 in
set_option maxHeartbeats 3200000 in
theorem A7(H:Tryz.HstC s p t q evs cs M) (hd:tn [ba] (cs.map unE)=false) (hw:∀(i:Nat) c w,cs[i]? =some c→ws[i]? =some w→w.Ok s∧c=w.con c.nm) (ar:Bool) (hv:plK 0 v) {i:Nat}(hn:cs.length=i+3) {ja:Nat}{f0:List AV}{u0:EvD}(i0:evs[ja]? =some f0) (y0:ws[ja]? =some u0) {jb:Nat}{f1:List AV}{u1:EvD}(i1:evs[jb]? =some f1) (y1:ws[jb]? =some u1) {jc:Nat}{f2:List AV}{u2:EvD}(i2:evs[jc]? =some f2) (y2:ws[jc]? =some u2) {D:List AV}(hD:(evs.flatten.drop (i*32)).take (3*32)=D) (hb:ar=true→D=f2++(f1++f0)) (hf:ar=false→D=f0++(f1++f2)):
  ACallsTo Tryz.prog 31 [.agg (aR s p t q cs.length),vA v,.int .i64 i,.bool ar] M (.tuple [vA (u2.mv ar (u1.mv ar (u0.mv ar v))),.int .i64 0]) M:=by
 have n4:=H.small;obtain⟨o,hq⟩:=H.hq (by rintro rfl;have:=H.len;simp at this;omega);have lq:=(List.getElem?_eq_some_iff.1 hq).1;have hq' :∀Z,(M++Z)[q]? =some (.cells o 32 evs.flatten):=fun Z=>by rw[List.getElem?_append_left lq];exact hq
 have hfl:=H.flat
 have hev:evV q cs.length=.slice q 0 cs.length none:=by unfold evV;rw[if_neg (by omega)]
 have l0:=H.l32 f0 (List.mem_of_getElem? i0);have k0:=H.cok f0 (List.mem_of_getElem? i0);obtain⟨c0,z0⟩:∃c,cs[ja]? =some c:=⟨_,List.getElem?_eq_getElem (by rw[←H.len];exact(List.getElem?_eq_some_iff.1 i0).1)⟩
 have g0:=hw _ c0 u0 z0 y0;have p1:=nh (k:=0) g0.1 ar hv (by decide);have l1:=H.l32 f1 (List.mem_of_getElem? i1);have k1:=H.cok f1 (List.mem_of_getElem? i1);obtain⟨c1,z1⟩:∃c,cs[jb]? =some c:=⟨_,List.getElem?_eq_getElem (by rw[←H.len];exact(List.getElem?_eq_some_iff.1 i1).1)⟩
 have g1:=hw _ c1 u1 z1 y1;have p2:=nh (k:=1) g1.1 ar p1 (by decide);have l2:=H.l32 f2 (List.mem_of_getElem? i2);have k2:=H.cok f2 (List.mem_of_getElem? i2);obtain⟨c2,z2⟩:∃c,cs[jc]? =some c:=⟨_,List.getElem?_eq_getElem (by rw[←H.len];exact(List.getElem?_eq_some_iff.1 i2).1)⟩
 have g2:=hw _ c2 u2 z2 y2;have p3:=nh (k:=2) g2.1 ar p2 (by decide);obtain⟨L,hL⟩:∃L:List (FuncId×List AV×(Mem→Prop)×CallRes),L=[(29,[.agg (aR s p t q cs.length),vA v],(fun N=>N=M++[.cells true 0 (aR s p t q cs.length),.cells true 0 (vL v),.cells true 0 [.str [],.str [],.str []]]),⟨.int .i64 0,none,[]⟩),
  (53,[.slice q (i*32) 3 none],(fun N=>N=M++[.cells true 0 (aR s p t q cs.length),.cells true 0 (vL v),.cells true 0 [.str [],.str [],.str []]]),⟨.slice (M.length+4) 0 3 none,none,[.absent,.cells true 32 D]⟩),
  (54,[.slice (M.length+4) 0 3 none],(fun N=>N=M++[.cells true 0 (aR s p t q cs.length),.cells true 0 (vL v),.cells true 0 [.str [],.str [],.str []],.absent,.cells true 32 D]∧ar=true),⟨.tuple [],some (M++[.cells true 0 (aR s p t q cs.length),.cells true 0 (vL v),.cells true 0 [.str [],.str [],.str []],.absent,.cells true 32 (f0++(f1++f2))]),[]⟩),
  (52,[.agg f0,vA v,.bool ar],(fun N=>(∃X,N=M++X)∧N.length=M.length+6),⟨vA (u0.mv ar v),none,[]⟩),
  (52,[.agg f1,vA (u0.mv ar v),.bool ar],(fun N=>(∃X,N=M++X)∧N.length=M.length+7),⟨vA (u1.mv ar (u0.mv ar v)),none,[]⟩),
  (52,[.agg f2,vA (u1.mv ar (u0.mv ar v)),.bool ar],(fun N=>(∃X,N=M++X)∧N.length=M.length+8),⟨vA (u2.mv ar (u1.mv ar (u0.mv ar v))),none,[]⟩),
  (14,[vA (u2.mv ar (u1.mv ar (u0.mv ar v)))],(fun _=>True),⟨.int .i64 0,none,[]⟩)]:=⟨_,rfl⟩
 have hO:OracleOk Tryz.prog (cv L):=gk fun y hy N hp=>by
  rw[hL] at hy;simp only[List.mem_cons,List.not_mem_nil,or_false] at hy;rcases hy with rfl | rfl | rfl | rfl | rfl | rfl | rfl
  ·subst hp
   exact ag (by simpa using gV (H.more _) hd (qd hv (by decide)))
  ·subst hp
   have:=Cy (M:=M++[.cells true 0 (aR s p t q cs.length),.cells true 0 (vL v),.cells true 0 [.str [],.str [],.str []]]) (i:=i) (k:=3) (hq' _) (by rw[hfl];omega) (by decide) (by decide) (JT H.cok);have hl3:List.length (M++[.cells true 0 (aR s p t q cs.length),.cells true 0 (vL v),.cells true 0 [.str [],.str [],.str []]]:Mem)+1=M.length+4:=by simp
   rw[hD,hl3] at this;exact ag this
  ·obtain⟨rfl,hbk⟩:=hp
   have hr:(M++[.cells true 0 (aR s p t q cs.length),.cells true 0 (vL v),.cells true 0 [.str [],.str [],.str []],.absent,.cells true 32 D])[M.length+4]? =some (.cells true 32 (f2++(f1++f0))):=by rw[kF,hb hbk];rfl
   have:=LF l2 l1 l0 k2 k1 k0 ((H.more _).con _ f2 c2 i2 z2 |>.refs 0) ((H.more _).con _ f1 c1 i1 z1 |>.refs 0) ((H.more _).con _ f0 c0 i0 z0 |>.refs 0) hr;rw[Dj] at this;exact⟨by simpa [CallRes.mem] using this,fun x hx=>by cases hx;simp⟩
  ·obtain⟨⟨X,rfl⟩,_⟩:=hp
   exact ag (by simpa using H.mvAt hw i0 y0 ar (k:=0) hv (by decide) X)
  ·obtain⟨⟨X,rfl⟩,_⟩:=hp
   exact ag (by simpa using H.mvAt hw i1 y1 ar (k:=1) p1 (by decide) X)
  ·obtain⟨⟨X,rfl⟩,_⟩:=hp
   exact ag (by simpa using H.mvAt hw i2 y2 ar (k:=2) p2 (by decide) X)
  ·exact ag (by simpa using gJ (qd p3 (by decide)) N)
 have e1:cv L (.fn 29) [.agg (aR s p t q cs.length),vA v] (M++[.cells true 0 (aR s p t q cs.length),.cells true 0 (vL v),.cells true 0 [.str [],.str [],.str []]])=some ⟨.int .i64 0,none,[]⟩:=by rw[hL];exact aQ rfl
 have e2:cv L (.fn 53) [.slice q (i*32) 3 none] (M++[.cells true 0 (aR s p t q cs.length),.cells true 0 (vL v),.cells true 0 [.str [],.str [],.str []]])=some ⟨.slice (M.length+4) 0 3 none,none,[.absent,.cells true 32 D]⟩:=by rw[hL,ak (.inl (by decide))];exact aQ rfl
 have e3:ar=true→cv L (.fn 54) [.slice (M.length+4) 0 3 none] (M++[.cells true 0 (aR s p t q cs.length),.cells true 0 (vL v),.cells true 0 [.str [],.str [],.str []],.absent,.cells true 32 D])=some ⟨.tuple [],some (M++[.cells true 0 (aR s p t q cs.length),.cells true 0 (vL v),.cells true 0 [.str [],.str [],.str []],.absent,.cells true 32 (f0++(f1++f2))]),[]⟩:=fun hbk=>by rw[hL,ak (.inl (by decide)),ak (.inl (by decide))];exact aQ ⟨rfl,hbk⟩
 have q0:∀X:Mem,X.length=6→cv L (.fn 52) [.agg f0,vA v,.bool ar] (M++X)=some ⟨vA (u0.mv ar v),none,[]⟩:=fun X hX=>by rw[hL,ak (.inl (by decide)),ak (.inl (by decide)),ak (.inl (by decide))];exact aQ ⟨⟨_,rfl⟩,by rw[List.length_append,hX]⟩
 have q1:∀X:Mem,X.length=7→cv L (.fn 52) [.agg f1,vA (u0.mv ar v),.bool ar] (M++X)=some ⟨vA (u1.mv ar (u0.mv ar v)),none,[]⟩:=fun X hX=>by rw[hL,ak (.inl (by decide)),ak (.inl (by decide)),ak (.inl (by decide)),ak (.inr (by intro h;have:=h.2;rw[List.length_append] at this;omega))];exact aQ ⟨⟨_,rfl⟩,by rw[List.length_append,hX]⟩
 have q2:∀X:Mem,X.length=8→cv L (.fn 52) [.agg f2,vA (u1.mv ar (u0.mv ar v)),.bool ar] (M++X)=some ⟨vA (u2.mv ar (u1.mv ar (u0.mv ar v))),none,[]⟩:=fun X hX=>by rw[hL,ak (.inl (by decide)),ak (.inl (by decide)),ak (.inl (by decide)),ak (.inr (by intro h;have:=h.2;rw[List.length_append] at this;omega)),ak (.inr (by intro h;have:=h.2;rw[List.length_append] at this;omega))];exact aQ ⟨⟨_,rfl⟩,by rw[List.length_append,hX]⟩
 have e5:∀N,cv L (.fn 14) [vA (u2.mv ar (u1.mv ar (u0.mv ar v)))] N=some ⟨.int .i64 0,none,[]⟩:=fun N=>by rw[hL,ak (.inl (by decide)),ak (.inl (by decide)),ak (.inl (by decide)),ak (.inl (by decide)),ak (.inl (by decide)),ak (.inl (by decide))];exact aQ trivial
 obtain⟨new,h⟩:=GU (O:=cv L) (M:=M) ar rfl rfl (eG q cs.length) hev (by omega) (by omega) hq' (by rw[hfl];omega) e1 e2 e3 hf q0 q1 q2 e5 l0 (mY k0) l1 (mY k1) l2 (mY k2);exact ACallsTo.forget rfl (bZ ae (aw _) hO (az _) h)
end
end Go.Proofs
namespace Go.Proofs
open Go.Eng
theorem sE{α:Type}{l:List α}{i:Nat}(h:l.length=i+1):∃a,l[i]? =some a∧l.drop i=[a]:=by refine⟨l[i],List.getElem?_eq_getElem (by omega),?_⟩;rw[List.drop_eq_getElem_cons (by omega),List.drop_of_length_le (by omega)]
theorem sF{α:Type}{l:List α}{i:Nat}(h:l.length=i+2):∃a b,l[i]? =some a∧l[i+1]? =some b∧l.drop i=[a,b]:=by obtain⟨b,h1,h2⟩:=sE (l:=l) (i:=i+1) (by omega);exact⟨l[i],b,List.getElem?_eq_getElem (by omega),h1,by rw[List.drop_eq_getElem_cons (by omega),h2]⟩
theorem xd{α:Type}{l:List α}{i:Nat}(h:l.length=i+3):∃a b c,l[i]? =some a∧l[i+1]? =some b∧l[i+2]? =some c∧l.drop i=[a,b,c]:=by obtain⟨b,c,h1,h2,h3⟩:=sF (l:=l) (i:=i+1) (by omega);exact⟨l[i],b,c,List.getElem?_eq_getElem (by omega),h1,h2,by rw[List.drop_eq_getElem_cons (by omega),h3]⟩
section
variable {s:Sheet}{p t q:Nat}{evs:List (List AV)}{cs:List Evc}{M:Mem}{ws:List EvD}{v:V3}
theorem Tryz.HstC.row1(H:Tryz.HstC s p t q evs cs M) {i:Nat}(hn:cs.length=i+1):∃f0,evs[i]? =some f0∧(evs.flatten.drop (i*32)).take (1*32)=f0:=by obtain⟨f0,h1,h2⟩:=sE (l:=evs) (i:=i) (by rw[H.len];exact hn);have l0:=H.l32 f0 (List.mem_of_getElem? h1);exact⟨f0,h1,by rw[ot i H.l32,h2];rw[List.take_of_length_le (by simp;omega)];simp⟩
theorem Tryz.HstC.row2(H:Tryz.HstC s p t q evs cs M) {i:Nat}(hn:cs.length=i+2):∃f0 f1,evs[i]? =some f0∧evs[i+1]? =some f1∧(evs.flatten.drop (i*32)).take (2*32)=f0++f1:=by obtain⟨f0,f1,h1,h2,h3⟩:=sF (l:=evs) (i:=i) (by rw[H.len];exact hn);have l0:=H.l32 f0 (List.mem_of_getElem? h1);have l1:=H.l32 f1 (List.mem_of_getElem? h2);exact⟨f0,f1,h1,h2,by rw[ot i H.l32,h3];rw[List.take_of_length_le (by simp;omega)];simp⟩
theorem Tryz.HstC.row3(H:Tryz.HstC s p t q evs cs M) {i:Nat}(hn:cs.length=i+3):∃f0 f1 f2,evs[i]? =some f0∧evs[i+1]? =some f1∧evs[i+2]? =some f2∧(evs.flatten.drop (i*32)).take (3*32)=f0++(f1++f2):=by obtain⟨f0,f1,f2,h1,h2,h3,h4⟩:=xd (l:=evs) (i:=i) (by rw[H.len];exact hn);have l0:=H.l32 f0 (List.mem_of_getElem? h1);have l1:=H.l32 f1 (List.mem_of_getElem? h2);have l2:=H.l32 f2 (List.mem_of_getElem? h3);exact⟨f0,f1,f2,h1,h2,h3,by rw[ot i H.l32,h4];rw[List.take_of_length_le (by simp;omega)];simp⟩
theorem Oj{M:Mem}{b:Nat}(hb:M[b]? =some .absent):ACallsTo Tryz.prog 53 [.slice b 0 0 none] M (.slice (M.length+1) 0 0 none) (M++[.absent,.cells true 32 []]):=by
 have hG:aL Tryz.prog 53=some Tryz.f53:=by kernel_rfl
 have lb:=(List.getElem?_eq_some_iff.1 hb).1;have hb' :∀Z,(M++Z)[b]? =some .absent:=fun Z=>by rw[List.getElem?_append_left lb];exact hb
 have h:cf (aM Tryz.prog) (fun _=>[]) (aL Tryz.prog) bJ 1 53 [.slice b 0 0 none] M=some (.slice (M.length+1) 0 0 none,M++[.absent,.cells true 32 []]):=by simp[cf,hG,Tryz.f53,JH,hb']
 exact bZ ae (aw _) (ao _) (az _) h
theorem LW(M:Mem):ACallsTo Tryz.prog 53 [.nilslice] M .nilslice M:=by
 have hG:aL Tryz.prog 53=some Tryz.f53:=by kernel_rfl
 refine aq (ao _) (lv:=fun _=>[]) (K:=1) rfl rfl ?_ M;simp[aa,hG,Tryz.f53,JH]
theorem Em(M:Mem):ACallsTo Tryz.prog 54 [.nilslice] M (.tuple []) M:=by
 have hG:aL Tryz.prog 54=some Tryz.f54:=by kernel_rfl
 have w1:IntKind.i64.wrap (-1)= -1:=rfl;refine aq (ao _) (lv:=fun _=>[2,3]) (K:=4) rfl rfl ?_ M;simp[aa,hG,Tryz.f54,aB,dV,w1]
theorem Mv(H:Tryz.HstC s p t q evs cs M) (hd:tn [ba] (cs.map unE)=false) (ar:Bool) (hv:plK 0 v):
  ACallsTo Tryz.prog 31 [.agg (aR s p t q cs.length),vA v,.int .i64 cs.length,.bool ar] M (.tuple [vA v,.int .i64 0]) M:=by
 have n4:=H.small;have hck:=gJ (qd hv (by decide));obtain⟨B,hB⟩:∃B:Mem,B=[.cells true 0 (aR s p t q cs.length),.cells true 0 (vL v),.cells true 0 [.str [],.str [],.str []]]:=⟨_,rfl⟩
 by_cases h0:cs.length=0
 ·have hev:evV q cs.length=.nilslice:=by unfold evV;rw[if_pos h0]
  obtain⟨L,hL⟩:∃L:List (FuncId×List AV×(Mem→Prop)×CallRes),L=[(29,[.agg (aR s p t q cs.length),vA v],(fun N=>N=M++B),⟨.int .i64 0,none,[]⟩),
   (53,[.nilslice],(fun _=>True),⟨.nilslice,none,[]⟩),(54,[.nilslice],(fun _=>True),⟨.tuple [],none,[]⟩),(14,[vA v],(fun _=>True),⟨.int .i64 0,none,[]⟩)]:=⟨_,rfl⟩
  have hO:OracleOk Tryz.prog (cv L):=gk fun y hy N hp=>by
   rw[hL] at hy;simp only[List.mem_cons,List.not_mem_nil,or_false] at hy;rcases hy with rfl | rfl | rfl | rfl
   ·subst hp
    exact ag (by simpa using gV (H.more _) hd (qd hv (by decide)))
   ·exact ag (by simpa using LW N)
   ·exact ag (by simpa using Em N)
   ·exact ag (by simpa using hck N)
  have e1:cv L (.fn 29) [.agg (aR s p t q cs.length),vA v] (M++B)=some ⟨.int .i64 0,none,[]⟩:=by rw[hL];exact aQ rfl
  have e2:∀N,cv L (.fn 53) [.nilslice] N=some ⟨.nilslice,none,[]⟩:=fun N=>by rw[hL,ak (.inl (by decide))];exact aQ trivial
  have e3:∀N,cv L (.fn 54) [.nilslice] N=some ⟨.tuple [],none,[]⟩:=fun N=>by rw[hL,ak (.inl (by decide)),ak (.inl (by decide))];exact aQ trivial
  have e5:∀N,cv L (.fn 14) [vA v] N=some ⟨.int .i64 0,none,[]⟩:=fun N=>by rw[hL,ak (.inl (by decide)),ak (.inl (by decide)),ak (.inl (by decide))];exact aQ trivial
  rw[hB] at e1;obtain⟨new,h⟩:=GV (O:=cv L) (M:=M) ar rfl rfl hev e1 e2 e3 e5;rw[h0] at h ⊢;exact ACallsTo.forget rfl (bZ ae (aw _) hO (az _) h)
 ·obtain⟨o,hq⟩:=H.hq (by rintro rfl;have:=H.len;simp at this;omega)
  have lq:=(List.getElem?_eq_some_iff.1 hq).1;have hq' :∀Z,(M++Z)[q]? =some (.cells o 32 evs.flatten):=fun Z=>by rw[List.getElem?_append_left lq];exact hq
  have hev:evV q cs.length=.slice q 0 cs.length none:=by unfold evV;rw[if_neg h0]
  obtain⟨L,hL⟩:∃L:List (FuncId×List AV×(Mem→Prop)×CallRes),L=[(29,[.agg (aR s p t q cs.length),vA v],(fun N=>N=M++B),⟨.int .i64 0,none,[]⟩),
   (53,[.slice (M.length+3) 0 0 none],(fun N=>N=M++(B++[.absent])),⟨.slice (M.length+5) 0 0 none,none,[.absent,.cells true 32 []]⟩),(54,[.slice (M.length+5) 0 0 none],(fun _=>True),⟨.tuple [],none,[]⟩),(14,[vA v],(fun _=>True),⟨.int .i64 0,none,[]⟩)]:=⟨_,rfl⟩
  have hO:OracleOk Tryz.prog (cv L):=gk fun y hy N hp=>by
   rw[hL] at hy;simp only[List.mem_cons,List.not_mem_nil,or_false] at hy;rcases hy with rfl | rfl | rfl | rfl
   ·subst hp
    exact ag (by simpa using gV (H.more _) hd (qd hv (by decide)))
   ·subst hp
    have:=Oj (M:=M++(B++[.absent])) (b:=M.length+3) (by rw[hB,kF];rfl);have hl:List.length (M++(B++[.absent]):Mem)+1=M.length+5:=by rw[hB];simp
    rw[hl] at this;exact ag this
   ·exact ag (by simpa using AI (N:=N) (b:=M.length+5) (k:=0) (by decide))
   ·exact ag (by simpa using hck N)
  have e1:cv L (.fn 29) [.agg (aR s p t q cs.length),vA v] (M++B)=some ⟨.int .i64 0,none,[]⟩:=by rw[hL];exact aQ rfl
  have e2:cv L (.fn 53) [.slice (M.length+3) 0 0 none] (M++(B++[.absent]))=some ⟨.slice (M.length+5) 0 0 none,none,[.absent,.cells true 32 []]⟩:=by rw[hL,ak (.inl (by decide))];exact aQ rfl
  have e3:∀N,cv L (.fn 54) [.slice (M.length+5) 0 0 none] N=some ⟨.tuple [],none,[]⟩:=fun N=>by rw[hL,ak (.inl (by decide)),ak (.inl (by decide))];exact aQ trivial
  have e5:∀N,cv L (.fn 14) [vA v] N=some ⟨.int .i64 0,none,[]⟩:=fun N=>by rw[hL,ak (.inl (by decide)),ak (.inl (by decide)),ak (.inl (by decide))];exact aQ trivial
  rw[hB] at e1 e2;obtain⟨new,h⟩:=GQ (O:=cv L) (M:=M) ar rfl rfl (eG q cs.length) hev (by omega) (by omega) hq' H.flat e1 e2 e3 e5;exact ACallsTo.forget rfl (bZ ae (aw _) hO (az _) h)
theorem B6(H:Tryz.HstC s p t q evs cs M) (hd:tn [ba] (cs.map unE)=false) (h3:cs.length≤3) (hwl:ws.length=cs.length) (hw:∀(i:Nat) c w,cs[i]? =some c→ws[i]? =some w→w.Ok s∧c=w.con c.nm) (ar:Bool) (hv:plK 0 v) {i:Nat}(hi:i≤cs.length):
  ACallsTo Tryz.prog 31 [.agg (aR s p t q cs.length),vA v,.int .i64 i,.bool ar] M (.tuple [vA (mvL ar (if ar then (ws.drop i).reverse else ws.drop i) v),.int .i64 0]) M:=by
 have hk:cs.length=i∨cs.length=i+1∨cs.length=i+2∨cs.length=i+3:=by omega
 rcases hk with hk | hk | hk | hk
 ·have:ws.drop i=[]:=List.drop_of_length_le (by omega)
  rw[this,←hk];have:=Mv H hd ar hv;cases ar<;>exact this
 ·obtain⟨u0,y0,hd0⟩:=sE (l:=ws) (i:=i) (by omega)
  obtain⟨f0,i0,hD⟩:=H.row1 hk;rw[hd0];have:=Mw H hd hw ar hv hk i0 y0 hD;cases ar<;>exact this
 ·obtain⟨u0,u1,y0,y1,hd0⟩:=sF (l:=ws) (i:=i) (by omega)
  obtain⟨f0,f1,i0,i1,hD⟩:=H.row2 hk;rw[hd0];cases ar with
  |false=>exact A6 H hd hw false hv hk i0 y0 i1 y1 hD (fun h=>by cases h) (fun _=>rfl)
  |true=>exact A6 H hd hw true hv hk i1 y1 i0 y0 hD (fun _=>rfl) (fun h=>by cases h)
 ·obtain⟨u0,u1,u2,y0,y1,y2,hd0⟩:=xd (l:=ws) (i:=i) (by omega)
  obtain⟨f0,f1,f2,i0,i1,i2,hD⟩:=H.row3 hk;rw[hd0];cases ar with
  |false=>exact A7 H hd hw false hv hk i0 y0 i1 y1 i2 y2 hD (fun h=>by cases h) (fun _=>rfl)
  |true=>exact A7 H hd hw true hv hk i2 y2 i1 y1 i0 y0 hD (fun _=>rfl) (fun h=>by cases h)
theorem Ad(H:Tryz.HstC s p t q evs cs M) (hd:tn [ba] (cs.map unE)=false) (ar:Bool) (hv:plK 0 v) {x:Int}(hx:x<0∨(cs.length:Int)<x):
  ACallsTo Tryz.prog 31 [.agg (aR s p t q cs.length),vA v,.int .i64 x,.bool ar] M (.tuple [Is,.int .i64 3]) M:=by
 obtain⟨B,hB⟩:∃B:Mem,B=[.cells true 0 (aR s p t q cs.length),.cells true 0 (vL v),.cells true 0 [.str [],.str [],.str []]]:=⟨_,rfl⟩
 obtain⟨L,hL⟩:∃L:List (FuncId×List AV×(Mem→Prop)×CallRes),L=[(29,[.agg (aR s p t q cs.length),vA v],(fun N=>N=M++B),⟨.int .i64 0,none,[]⟩)]:=⟨_,rfl⟩
 have hO:OracleOk Tryz.prog (cv L):=gk fun y hy N hp=>by rw[hL,List.mem_singleton] at hy;subst hy;subst hp;exact ag (by simpa using gV (H.more _) hd (qd hv (by decide)))
 have e1:cv L (.fn 29) [.agg (aR s p t q cs.length),vA v] (M++B)=some ⟨.int .i64 0,none,[]⟩:=by rw[hL];exact aQ rfl
 rw[hB] at e1;obtain⟨new,h⟩:=GW (O:=cv L) (M:=M) ar x hx rfl rfl (eG q cs.length) (cd q cs.length) e1;exact ACallsTo.forget rfl (bZ ae (aw _) hO (az _) h)
end
end Go.Proofs
namespace Go.Proofs
open Go.Eng
section
variable {s:Sheet}{p t q:Nat}{evs:List (List AV)}{cs:List Evc}{M:Mem}{ws:List EvD}{v:V3}
theorem D0{x:Int}{a1 a2 a3:List UInt8}{e:Int}(ar:Bool) (E:AV) (hE:E.cellOk=true) (pv tv:AV) (hp:pv.cellOk=true) (ht:tv.cellOk=true) (nm:List UInt8)
  (h:∀Z,ACallsTo Tryz.prog 31 [.agg [pv,tv,.str nm,E],vA v,.int .i64 x,.bool ar] (M++Z) (.tuple [.agg [.str a1,.str a2,.str a3],.int .i64 e]) (M++Z)):
  ACallsTo Tryz.prog (if ar then 12 else 13) [.agg [pv,tv,.str nm,E],vA v,.int .i64 x] M (.tuple [.agg [.str a1,.str a2,.str a3],.int .i64 e]) M:=by
 have hO:OracleOk Tryz.prog (cw 31 [.agg [pv,tv,.str nm,E],vA v,.int .i64 x,.bool ar] (.tuple [.agg [.str a1,.str a2,.str a3],.int .i64 e]) (fun N=>∃Z,N=M++Z)):=cS fun N ⟨Z,hZ⟩=>by subst hZ;exact h Z
 clear h;have hcs:∀s,(AV.str s).cellOk=true:=fun _=>rfl
 cases ar with
 |true=>
  have hG:aL Tryz.prog 12=some Tryz.f12:=by kernel_rfl
  have h:aa (aM Tryz.prog) (fun _=>[]) (aL Tryz.prog) (cw 31 [.agg [pv,tv,.str nm,E],vA v,.int .i64 x,.bool true] (.tuple [.agg [.str a1,.str a2,.str a3],.int .i64 e]) (fun N=>∃Z,N=M++Z)) 1 12 [.agg [pv,tv,.str nm,E],vA v,.int .i64 x] M=some ⟨.tuple [.agg [.str a1,.str a2,.str a3],.int .i64 e],none,[]⟩:=by clear hO;simp[-AV.cellOk,hcs,aa,hG,Tryz.f12,cw,vA]
  have:=(al ae (aw _) hO (az _) h).1;simpa [CallRes.mem] using this
 |false=>
  have hG:aL Tryz.prog 13=some Tryz.f13:=by kernel_rfl
  have h:aa (aM Tryz.prog) (fun _=>[]) (aL Tryz.prog) (cw 31 [.agg [pv,tv,.str nm,E],vA v,.int .i64 x,.bool false] (.tuple [.agg [.str a1,.str a2,.str a3],.int .i64 e]) (fun N=>∃Z,N=M++Z)) 1 13 [.agg [pv,tv,.str nm,E],vA v,.int .i64 x] M=some ⟨.tuple [.agg [.str a1,.str a2,.str a3],.int .i64 e],none,[]⟩:=by clear hO;simp[-AV.cellOk,hcs,aa,hG,Tryz.f13,cw,vA]
  have:=(al ae (aw _) hO (az _) h).1;simpa [CallRes.mem] using this
noncomputable def mvI(ws:List EvD) (ar:Bool) (i:Nat) (v:V3):V3:=mvL ar (if ar then (ws.drop i).reverse else ws.drop i) v
theorem cY(H:Tryz.HstC s p t q evs cs M) (hd:tn [ba] (cs.map unE)=false) (h3:cs.length≤3) (hwl:ws.length=cs.length) (hw:∀(i:Nat) c w,cs[i]? =some c→ws[i]? =some w→w.Ok s∧c=w.con c.nm) (ar:Bool) (hv:plK 0 v) {i:Nat}(hi:i≤cs.length):
  ACallsTo Tryz.prog (if ar then 12 else 13) [.agg (aR s p t q cs.length),vA v,.int .i64 i] M (.tuple [vA (mvI ws ar i v),.int .i64 0]) M:=
 D0 ar _ (eG _ _) _ _ rfl rfl ba fun Z=>B6 (H.more Z) hd h3 hwl hw ar hv hi
theorem mR(H:Tryz.HstC s p t q evs cs M) (hd:tn [ba] (cs.map unE)=false) (ar:Bool) (hv:plK 0 v) {x:Int}(hx:x<0∨(cs.length:Int)<x):
  ACallsTo Tryz.prog (if ar then 12 else 13) [.agg (aR s p t q cs.length),vA v,.int .i64 x] M (.tuple [Is,.int .i64 3]) M:=
 D0 ar _ (eG _ _) _ _ rfl rfl ba fun Z=>Ad (H.more Z) hd ar hv hx
end
theorem Rc(n:Int) (d:Nat) (hd:d=2∨d=4) (hn:n.natAbs≤142):n.natAbs.gcd d=1∨(Nx n (n.natAbs.gcd d)∧Nx d (n.natAbs.gcd d)):=by
 have hdv:n.natAbs.gcd d∣d:=Nat.gcd_dvd_right _ _;have hdn:n.natAbs.gcd d∣n.natAbs:=Nat.gcd_dvd_left _ _;obtain⟨g,hg⟩:∃g,g=n.natAbs.gcd d:=⟨_,rfl⟩
 rw[←hg] at hdv hdn ⊢;have hgl:g≤4:=by have:=Nat.le_of_dvd (by omega) hdv;omega
 have g0:0<g:=Nat.pos_of_dvd_of_pos hdv (by omega);have hc:g=1∨g=2∨g=3∨g=4:=by omega
 rcases hc with rfl | rfl | rfl | rfl
 ·exact .inl rfl
 ·refine .inr ⟨.inl ⟨rfl,by omega,by omega,by omega⟩,.inl ⟨rfl,by omega,by omega,by omega⟩⟩
 ·rcases hd with rfl | rfl<;>omega
 ·refine .inr ⟨.inr (.inl ⟨rfl,by omega,by omega,by omega⟩),.inr (.inl ⟨rfl,by omega,by omega,by omega⟩)⟩
def plP(s:Sheet) (x y:Int):P2:=(mkRat (x+s.sx.tmod 8*2) (if s.half then 4 else 2),mkRat (y+s.sy.tmod 8*2) (if s.half then 4 else 2))
open Classical in
noncomputable def CD(f:FuncId) (args:List AV):Option AV:=
 match f,args with
 |56,[.int .i64 n,.int .i64 d]=>if (d=2∨d=4)∧n.natAbs≤142 then some (.tuple [.str (ah (mkRat n d.toNat)),.int .i64 0]) else none
 |_,_=>none
theorem Jy:OracleOk Tryz.prog (af CD):=bq fun f args v h mem=>by
 unfold CD at h;split at h
 ·rename_i n d
  split at h
  ·rename_i hc
   cases h;have:=Ef n d.toNat (by omega) (by omega) (by omega) (Rc n d.toNat (by omega) hc.2) mem
   rwa [Int.toNat_of_nonneg (by omega)] at this
  ·cases h
 ·cases h
set_option maxHeartbeats 1600000 in
theorem BV(s:Sheet) (x y:Int) (hx:xh x) (hy:xh y) (M:Mem):
  ACallsTo Tryz.prog 33 [s.av,.agg [.int .i8 x,.int .i8 y],.int .i64 2] M (pA (plP s x y)) M:=by
 have hG:aL Tryz.prog 33=some Tryz.f33:=by kernel_rfl
 obtain⟨kd,sx,sy,hf⟩:=s;have q1:=Ih sx;have q2:=Ih sy;unfold xh at hx hy;unfold Sheet.av plP;simp only;obtain⟨u,hu⟩:∃u,u=sx.tmod 8:=⟨_,rfl⟩
 obtain⟨v,hv⟩:∃u,u=sy.tmod 8:=⟨_,rfl⟩
 rw[←hu] at q1 ⊢;rw[←hv] at q2 ⊢;refine aq Jy (lv:=fun _=>[]) (K:=1) rfl rfl ?_ M;have wx:IntKind.i64.wrap x=x:=cU (by omega) (by omega);have wy:IntKind.i64.wrap y=y:=cU (by omega) (by omega);have wu:IntKind.i64.wrap u=u:=cU (by omega) (by omega);have wv:IntKind.i64.wrap v=v:=cU (by omega) (by omega);have wu2:IntKind.i64.wrap (u*2)=u*2:=cU (by omega) (by omega);have wv2:IntKind.i64.wrap (v*2)=v*2:=cU (by omega) (by omega);have a1:IntKind.i64.wrap (x+u*2)=x+u*2:=cU (by omega) (by omega);have a2:IntKind.i64.wrap (y+v*2)=y+v*2:=cU (by omega) (by omega);have b1:IntKind.i64.wrap 1=1:=rfl;have b2:IntKind.i64.wrap 2=2:=rfl;have b4:IntKind.i64.wrap 4=4:=rfl;have f1:(x+u*2).natAbs≤142:=by omega
 have f2:(y+v*2).natAbs≤142:=by omega
 cases hf<;>simp[aa,hG,Tryz.f33,af,CD,←hu,←hv,wx,wy,wu,wv,wu2,wv2,a1,a2,b2,b4,f1,f2,bO,aH,pA]
end Go.Proofs
namespace Go.Proofs
open Go.Eng
def plV(s:Sheet) (x:Z3):V3:=((plP s x.1 x.2.1).1,(plP s x.1 x.2.1).2,mkRat x.2.2 2)
def z8(x:Z3):Prop:=xh x.1∧xh x.2.1∧xh x.2.2
def zB(x:Z3):AV:=.agg [.int .i8 x.1,.int .i8 x.2.1,.int .i8 x.2.2]
theorem S9(s:Sheet) (x:Z3) (hx:z8 x):plK 0 (plV s x):=by
 obtain⟨h1,h2,h3⟩:=hx;unfold xh at h1 h2 h3;have q1:=Ih s.sx;have q2:=Ih s.sy;have key:∀n:Int,n.natAbs≤142→Sm 4 71 (mkRat n (if s.half then 4 else 2)):=fun n hn=>by
  cases s.half
  ·exact(rJ (V:=71) (by decide) (by simp;omega)).to (by decide) (by decide) (Nat.le_refl 71)
  ·exact rJ (by decide) (by simp;omega)
 exact⟨key _ (by omega),key _ (by omega),(rJ (n:=x.2.2) (d:=2) (V:=71) (by decide) (by omega)).to (by decide) (by decide) (Nat.le_refl 71)⟩
set_option maxHeartbeats 1600000 in
theorem uU(s:Sheet) (x:Z3) (hx:z8 x) (a:AV) (m:Mem) (ha:(a=.nilslice∧m=[])∨∃n,a=.slice 0 0 n none∧m=[.absent]):
  ACallsTo Tryz.prog 16 [gx s a,zB x] m (vA (plV s x)) m:=by
 have hG:aL Tryz.prog 16=some Tryz.f16:=by kernel_rfl
 obtain⟨x1,x2,x3⟩:=x;obtain⟨h1,h2,h3⟩:=hx;have h3' :=h3;unfold xh at h3';simp only at h1 h2 h3';have hO:OracleOk Tryz.prog (Oracle.or (af (bG [(33,[s.av,.agg [.int .i8 x1,.int .i8 x2],.int .i64 2],pA (plP s x1 x2))])) (af gN)):=OracleOk.or (cF fun e he M=>by rw[List.mem_singleton] at he;rw[he];exact BV s x1 x2 h1 h2 M) my
 obtain⟨o1,hops⟩:∃o1,aE Tryz.f16=[o1]:=⟨_,rfl⟩
 have hb1:=cE hops (l:=[0,1,0,4,0,16,48,112,255,511]) (by kernel_rfl);have j1:aN [0,1,0,4,0,16,48,112,255,511] 9=true:=by decide
 simp[aE,bC,Tryz.f16] at hops;subst hops;have wz:IntKind.i64.wrap x3=x3:=cU (by omega) (by omega);have f3:x3.natAbs<100000000:=by omega
 unfold plV;simp only;obtain⟨q,hq⟩:∃q,q=plP s x1 x2:=⟨_,rfl⟩
 rw[←hq] at hO ⊢;have h:aa (aM Tryz.prog) (fun _=>[]) (aL Tryz.prog) (Oracle.or (af (bG [(33,[s.av,.agg [.int .i8 x1,.int .i8 x2],.int .i64 2],pA q)])) (af gN)) 1 16 [gx s a,zB (x1,x2,x3)] m=some ⟨vA (q.1,q.2,mkRat x3 2),none,[]⟩:=by clear hO;rcases ha with⟨rfl,rfl⟩ | ⟨n,rfl,rfl⟩<;>simp[aa,hG,Tryz.f16,Oracle.or,bG,af,gN,gx,zB,Sheet.av,pA,vA,wz,f3,bO,aH,-aD,ai hb1,bc,aW,a8,j1,Nat.testBit]
 have:=(al ae (aw _) hO (az _) h).1;simpa [CallRes.mem] using this
theorem Ej(s:Sheet) (x:Z3) (hx:z8 x) (a:AV) (M:Mem) (ha:a=.nilslice∨∃b n,a=.slice b 0 n none∧b<M.length):
  ACallsTo Tryz.prog 16 [gx s a,zB x] M (vA (plV s x)) M:=by
 rcases ha with rfl | ⟨b,n,rfl,hb⟩
 ·exact ACallsTo.lift rfl rfl (uU s x hx .nilslice [] (.inl ⟨rfl,rfl⟩)) M
 ·have:=ACallsTo.frame (M:=M) (new:=[]) [b] rfl (by simpa using hb) (by rfl) (fun i t hs=>by
   match i with
   |0=>simp at hs;subst hs;trivial
   |i+1=>simp at hs) rfl (uU s x hx (.slice 0 0 n none) [.absent] (.inr ⟨n,rfl,rfl⟩))
  simpa [gx,zB,vA,AV.rens,AV.ren,Go.Eng.ar] using this
end Go.Proofs
