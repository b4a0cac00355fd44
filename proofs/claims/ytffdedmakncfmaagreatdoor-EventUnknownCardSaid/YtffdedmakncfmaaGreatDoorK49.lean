/- See K51. -/
import Derived.Test.YtffdedmakncfmaaGreatDoorK47
import Derived.Test.YtffdedmakncfmaaGreatDoorK48
set_option linter.all false
namespace Go.Proofs
open Go.Eng
theorem nn:iH (aO Tryz.prog) 20 80 zAf zAf=some true:=by kernel_rfl
def JC(s:Sheet) (C:List AV):Mem:=[.cells true 0 [.int .u8 s.kind,.int .i8 s.sx,.int .i8 s.sy,.bool s.half],.cells true 0 C,.cells true 2 (pC s.P),.cells true 3 (tC s.T),.cells true 0 [.slice 2 0 s.P.length none,.slice 3 0 s.T.length none]]
def gZ(s:Sheet) (C:List AV) (ns:Mem):Mem:=JC s C++ns
theorem ir(s:Sheet) (hs:s.Ok) (M:Mem):ACallsTo Tryz.prog 7 [s.av] M (gF s M.length (M.length+1)) (M++[.cells true 2 (pC s.P),.cells true 3 (tC s.T)]):=HN s hs M
set_option maxRecDepth 8192 in
set_option maxHeartbeats 6400000 in
theorem uv(s:Sheet) (hs:s.Ok) (C ev:List AV) (hC:C.length=34) (hCc:AV.closeds C=true) (hl:ev.length=32) (hck:∀x∈ev,x.cellOk=true) (n:Int)
  (hM:ACallsTo Tryz.prog 8 [gF s 2 3,.agg C,.str [110]] (JC s C) (.agg ev) (gZ s C [])) (hG:dH (gZ s C []) (gF s 2 3) ev n):
  ACallsTo Tryz.prog 4 [s.av,.agg C,.int .i64 n] [] (.bool true) []:=by
 have hF:aN Tryz.prog 4=some Tryz.f4:=by kernel_rfl
 have r0:=cD hCc
 have o0:=eU hCc
 have t34:C.take 34=C:=List.take_of_length_le (by omega)
 have t32:ev.take 32=ev:=List.take_of_length_le (by omega)
 have g1:ev.all AV.cellOk=true:=List.all_eq_true.2 hck
 have key:∃E B ok,(∀Z,ACallsTo Tryz.prog 13 [gF s 2 3,.agg ev,.int .i64 n] ((gZ s C [])++Z) E ((gZ s C [])++Z))∧(∀Z,ACallsTo Tryz.prog 14 [gF s 2 3,.agg ev,.int .i64 n] ((gZ s C [])++Z) B ((gZ s C [])++Z))∧(∀Z,ACallsTo Tryz.prog 15 [.agg ev,.int .i64 n] ((gZ s C [])++Z) (.bool ok) ((gZ s C [])++Z))∧((ok=true∧(∃r b,E=.tuple [.str r,.bool b,.int .i64 0])∧∃a1 a2 a3 a4 a5 a6 a7 a8 a9 a10 a11 a12,B=.tuple [.agg [.str a1,.str a2,.str a3,.str a4,.str a5,.str a6,.str a7,.str a8,.str a9,.str a10,.str a11,.str a12],.int .i64 0])∨(ok=false∧E=.tuple [.str [],.bool false,.int .i64 10]∧B=.tuple [zAf,.int .i64 10])):=by
  rcases hG with⟨r,b,R,v,h1,h2,h3⟩ | ⟨h1,h2,h3⟩
  ·exact⟨_,_,_,h1,h2,h3,.inl ⟨rfl,⟨_,_,rfl⟩,_,_,_,_,_,_,_,_,_,_,_,_,rfl⟩⟩
  ·exact⟨_,_,_,h1,h2,h3,.inr ⟨rfl,rfl,rfl⟩⟩
 clear hG
 obtain⟨E,B,ok,h1,h2,h3,hcs⟩:=key
 obtain⟨L,hL⟩:∃L:List (FuncId×List AV×(Mem→Prop)×CallRes),L=[(6,[],(fun _=>True),⟨.bool true,none,[]⟩),(7,[s.av],(fun M=>M.length=2),⟨gF s 2 3,none,[.cells true 2 (pC s.P),.cells true 3 (tC s.T)]⟩),(8,[gF s 2 3,.agg C,.str [110]],(fun M=>M=(JC s C)),⟨.agg ev,none,[]⟩),(13,[gF s 2 3,.agg ev,.int .i64 n],(fun M=>∃Z,M=(gZ s C [])++Z),⟨E,none,[]⟩),(14,[gF s 2 3,.agg ev,.int .i64 n],(fun M=>∃Z,M=(gZ s C [])++Z),⟨B,none,[]⟩),(15,[.agg ev,.int .i64 n],(fun M=>∃Z,M=(gZ s C [])++Z),⟨.bool ok,none,[]⟩)]:=⟨_,rfl⟩
 have hO:OracleOk Tryz.prog (cr L):=jT fun z hz M hp=>by
  rw[hL] at hz
  simp only[List.mem_cons,List.not_mem_nil,or_false] at hz
  rcases hz with rfl | rfl | rfl | rfl | rfl | rfl
  ·exact ah (by simpa using jf M)
  ·have hp:M.length=2:=hp
   have:=ir s hs M
   rw[hp] at this
   exact ah this
  ·have hp:M=_:=hp
   rw[hp]
   exact ah hM
  ·obtain⟨Z,rfl⟩:=hp
   exact ah (by simpa using h1 Z)
  ·obtain⟨Z,rfl⟩:=hp
   exact ah (by simpa using h2 Z)
  ·obtain⟨Z,rfl⟩:=hp
   exact ah (by simpa using h3 Z)
 have e1:∀M,cr L (.fn 6) [] M=some ⟨.bool true,none,[]⟩:=fun M=>by rw[hL];exact bn trivial
 have e2:∀M:Mem,M.length=2→cr L (.fn 7) [.agg [.int .u8 s.kind,.int .i8 s.sx,.int .i8 s.sy,.bool s.half]] M=some ⟨.agg [.slice 2 0 s.P.length none,.slice 3 0 s.T.length none],none,[.cells true 2 (pC s.P),.cells true 3 (tC s.T)]⟩:=fun M hM=>by rw[hL,ar (.inl (by decide))];exact bn hM
 have e3:cr L (.fn 8) [.agg [.slice 2 0 s.P.length none,.slice 3 0 s.T.length none],.agg C,.str [110]] [.cells true 0 [.int .u8 s.kind,.int .i8 s.sx,.int .i8 s.sy,.bool s.half],.cells true 0 C,.cells true 2 (pC s.P),.cells true 3 (tC s.T),.cells true 0 [.slice 2 0 s.P.length none,.slice 3 0 s.T.length none]]=some ⟨.agg ev,none,[]⟩:=by rw[hL,ar (.inl (by decide)),ar (.inl (by decide))];exact bn rfl
 have e4:∀Z,cr L (.fn 13) [.agg [.slice 2 0 s.P.length none,.slice 3 0 s.T.length none],.agg ev,.int .i64 n] (.cells true 0 [.int .u8 s.kind,.int .i8 s.sx,.int .i8 s.sy,.bool s.half]::.cells true 0 C::.cells true 2 (pC s.P)::.cells true 3 (tC s.T)::.cells true 0 [.slice 2 0 s.P.length none,.slice 3 0 s.T.length none]::Z)=some ⟨E,none,[]⟩:=fun Z=>by rw[hL,ar (.inl (by decide)),ar (.inl (by decide)),ar (.inl (by decide))];exact bn ⟨Z,rfl⟩
 have e5:∀Z,cr L (.fn 14) [.agg [.slice 2 0 s.P.length none,.slice 3 0 s.T.length none],.agg ev,.int .i64 n] (.cells true 0 [.int .u8 s.kind,.int .i8 s.sx,.int .i8 s.sy,.bool s.half]::.cells true 0 C::.cells true 2 (pC s.P)::.cells true 3 (tC s.T)::.cells true 0 [.slice 2 0 s.P.length none,.slice 3 0 s.T.length none]::Z)=some ⟨B,none,[]⟩:=fun Z=>by rw[hL,ar (.inl (by decide)),ar (.inl (by decide)),ar (.inl (by decide)),ar (.inl (by decide))];exact bn ⟨Z,rfl⟩
 have e6:∀Z,cr L (.fn 15) [.agg ev,.int .i64 n] (.cells true 0 [.int .u8 s.kind,.int .i8 s.sx,.int .i8 s.sy,.bool s.half]::.cells true 0 C::.cells true 2 (pC s.P)::.cells true 3 (tC s.T)::.cells true 0 [.slice 2 0 s.P.length none,.slice 3 0 s.T.length none]::Z)=some ⟨.bool ok,none,[]⟩:=fun Z=>by rw[hL,ar (.inl (by decide)),ar (.inl (by decide)),ar (.inl (by decide)),ar (.inl (by decide)),ar (.inl (by decide))];exact bn ⟨Z,rfl⟩
 have e0:=nn
 unfold zAf at e0 hcs
 obtain⟨O,hOe⟩:∃O,O=cr L:=⟨_,rfl⟩
 rw[←hOe] at hO e1 e2 e3 e4 e5 e6
 clear hOe hL h1 h2 h3 hM
 have hr:∃new,bT (aO Tryz.prog) (fun _=>[]) (aN Tryz.prog) O 1 4 [s.av,.agg C,.int .i64 n] []=some (.bool true,[]++new):=by
  rcases hcs with⟨rfl,⟨r,b,rfl⟩,a1,a2,a3,a4,a5,a6,a7,a8,a9,a10,a11,a12,rfl⟩ | ⟨rfl,rfl,rfl⟩<;>
   simp (maxSteps:=1000000) [-AV.cellOk,-AV.known,-List.all_eq_true,vS,bT,hF,Tryz.f4,Sheet.av,e0,e1,e2,e3,e4,e5,e6,hC,t34,t32,hl,g1,bx]
 obtain⟨new,hr⟩:=hr
 exact ACallsTo.forget rfl (bQ ae (aw _) hO (ax _) hr)
set_option maxRecDepth 8192 in
set_option maxHeartbeats 6400000 in
theorem Lv(s:Sheet) (hs:s.Ok) (C ev:List AV) (hC:C.length=34) (hCc:AV.closeds C=true) (hl:ev.length=32) (hck:∀x∈ev,x.cellOk=true) (n:Int) (r1:Slot)
  (hM:ACallsTo Tryz.prog 8 [gF s 2 3,.agg C,.str [110]] (JC s C) (.agg ev) (gZ s C [r1])) (hG:dH (gZ s C [r1]) (gF s 2 3) ev n):
  ACallsTo Tryz.prog 4 [s.av,.agg C,.int .i64 n] [] (.bool true) []:=by
 have hF:aN Tryz.prog 4=some Tryz.f4:=by kernel_rfl
 have r0:=cD hCc
 have o0:=eU hCc
 have t34:C.take 34=C:=List.take_of_length_le (by omega)
 have t32:ev.take 32=ev:=List.take_of_length_le (by omega)
 have g1:ev.all AV.cellOk=true:=List.all_eq_true.2 hck
 have key:∃E B ok,(∀Z,ACallsTo Tryz.prog 13 [gF s 2 3,.agg ev,.int .i64 n] ((gZ s C [r1])++Z) E ((gZ s C [r1])++Z))∧(∀Z,ACallsTo Tryz.prog 14 [gF s 2 3,.agg ev,.int .i64 n] ((gZ s C [r1])++Z) B ((gZ s C [r1])++Z))∧(∀Z,ACallsTo Tryz.prog 15 [.agg ev,.int .i64 n] ((gZ s C [r1])++Z) (.bool ok) ((gZ s C [r1])++Z))∧((ok=true∧(∃r b,E=.tuple [.str r,.bool b,.int .i64 0])∧∃a1 a2 a3 a4 a5 a6 a7 a8 a9 a10 a11 a12,B=.tuple [.agg [.str a1,.str a2,.str a3,.str a4,.str a5,.str a6,.str a7,.str a8,.str a9,.str a10,.str a11,.str a12],.int .i64 0])∨(ok=false∧E=.tuple [.str [],.bool false,.int .i64 10]∧B=.tuple [zAf,.int .i64 10])):=by
  rcases hG with⟨r,b,R,v,h1,h2,h3⟩ | ⟨h1,h2,h3⟩
  ·exact⟨_,_,_,h1,h2,h3,.inl ⟨rfl,⟨_,_,rfl⟩,_,_,_,_,_,_,_,_,_,_,_,_,rfl⟩⟩
  ·exact⟨_,_,_,h1,h2,h3,.inr ⟨rfl,rfl,rfl⟩⟩
 clear hG
 obtain⟨E,B,ok,h1,h2,h3,hcs⟩:=key
 obtain⟨L,hL⟩:∃L:List (FuncId×List AV×(Mem→Prop)×CallRes),L=[(6,[],(fun _=>True),⟨.bool true,none,[]⟩),(7,[s.av],(fun M=>M.length=2),⟨gF s 2 3,none,[.cells true 2 (pC s.P),.cells true 3 (tC s.T)]⟩),(8,[gF s 2 3,.agg C,.str [110]],(fun M=>M=(JC s C)),⟨.agg ev,none,[r1]⟩),(13,[gF s 2 3,.agg ev,.int .i64 n],(fun M=>∃Z,M=(gZ s C [r1])++Z),⟨E,none,[]⟩),(14,[gF s 2 3,.agg ev,.int .i64 n],(fun M=>∃Z,M=(gZ s C [r1])++Z),⟨B,none,[]⟩),(15,[.agg ev,.int .i64 n],(fun M=>∃Z,M=(gZ s C [r1])++Z),⟨.bool ok,none,[]⟩)]:=⟨_,rfl⟩
 have hO:OracleOk Tryz.prog (cr L):=jT fun z hz M hp=>by
  rw[hL] at hz
  simp only[List.mem_cons,List.not_mem_nil,or_false] at hz
  rcases hz with rfl | rfl | rfl | rfl | rfl | rfl
  ·exact ah (by simpa using jf M)
  ·have hp:M.length=2:=hp
   have:=ir s hs M
   rw[hp] at this
   exact ah this
  ·have hp:M=_:=hp
   rw[hp]
   exact ah hM
  ·obtain⟨Z,rfl⟩:=hp
   exact ah (by simpa using h1 Z)
  ·obtain⟨Z,rfl⟩:=hp
   exact ah (by simpa using h2 Z)
  ·obtain⟨Z,rfl⟩:=hp
   exact ah (by simpa using h3 Z)
 have e1:∀M,cr L (.fn 6) [] M=some ⟨.bool true,none,[]⟩:=fun M=>by rw[hL];exact bn trivial
 have e2:∀M:Mem,M.length=2→cr L (.fn 7) [.agg [.int .u8 s.kind,.int .i8 s.sx,.int .i8 s.sy,.bool s.half]] M=some ⟨.agg [.slice 2 0 s.P.length none,.slice 3 0 s.T.length none],none,[.cells true 2 (pC s.P),.cells true 3 (tC s.T)]⟩:=fun M hM=>by rw[hL,ar (.inl (by decide))];exact bn hM
 have e3:cr L (.fn 8) [.agg [.slice 2 0 s.P.length none,.slice 3 0 s.T.length none],.agg C,.str [110]] [.cells true 0 [.int .u8 s.kind,.int .i8 s.sx,.int .i8 s.sy,.bool s.half],.cells true 0 C,.cells true 2 (pC s.P),.cells true 3 (tC s.T),.cells true 0 [.slice 2 0 s.P.length none,.slice 3 0 s.T.length none]]=some ⟨.agg ev,none,[r1]⟩:=by rw[hL,ar (.inl (by decide)),ar (.inl (by decide))];exact bn rfl
 have e4:∀Z,cr L (.fn 13) [.agg [.slice 2 0 s.P.length none,.slice 3 0 s.T.length none],.agg ev,.int .i64 n] (.cells true 0 [.int .u8 s.kind,.int .i8 s.sx,.int .i8 s.sy,.bool s.half]::.cells true 0 C::.cells true 2 (pC s.P)::.cells true 3 (tC s.T)::.cells true 0 [.slice 2 0 s.P.length none,.slice 3 0 s.T.length none]::r1::Z)=some ⟨E,none,[]⟩:=fun Z=>by rw[hL,ar (.inl (by decide)),ar (.inl (by decide)),ar (.inl (by decide))];exact bn ⟨Z,rfl⟩
 have e5:∀Z,cr L (.fn 14) [.agg [.slice 2 0 s.P.length none,.slice 3 0 s.T.length none],.agg ev,.int .i64 n] (.cells true 0 [.int .u8 s.kind,.int .i8 s.sx,.int .i8 s.sy,.bool s.half]::.cells true 0 C::.cells true 2 (pC s.P)::.cells true 3 (tC s.T)::.cells true 0 [.slice 2 0 s.P.length none,.slice 3 0 s.T.length none]::r1::Z)=some ⟨B,none,[]⟩:=fun Z=>by rw[hL,ar (.inl (by decide)),ar (.inl (by decide)),ar (.inl (by decide)),ar (.inl (by decide))];exact bn ⟨Z,rfl⟩
 have e6:∀Z,cr L (.fn 15) [.agg ev,.int .i64 n] (.cells true 0 [.int .u8 s.kind,.int .i8 s.sx,.int .i8 s.sy,.bool s.half]::.cells true 0 C::.cells true 2 (pC s.P)::.cells true 3 (tC s.T)::.cells true 0 [.slice 2 0 s.P.length none,.slice 3 0 s.T.length none]::r1::Z)=some ⟨.bool ok,none,[]⟩:=fun Z=>by rw[hL,ar (.inl (by decide)),ar (.inl (by decide)),ar (.inl (by decide)),ar (.inl (by decide)),ar (.inl (by decide))];exact bn ⟨Z,rfl⟩
 have e0:=nn
 unfold zAf at e0 hcs
 obtain⟨O,hOe⟩:∃O,O=cr L:=⟨_,rfl⟩
 rw[←hOe] at hO e1 e2 e3 e4 e5 e6
 clear hOe hL h1 h2 h3 hM
 have hr:∃new,bT (aO Tryz.prog) (fun _=>[]) (aN Tryz.prog) O 1 4 [s.av,.agg C,.int .i64 n] []=some (.bool true,[]++new):=by
  rcases hcs with⟨rfl,⟨r,b,rfl⟩,a1,a2,a3,a4,a5,a6,a7,a8,a9,a10,a11,a12,rfl⟩ | ⟨rfl,rfl,rfl⟩<;>
   simp (maxSteps:=1000000) [-AV.cellOk,-AV.known,-List.all_eq_true,vS,bT,hF,Tryz.f4,Sheet.av,e0,e1,e2,e3,e4,e5,e6,hC,t34,t32,hl,g1,bx]
 obtain⟨new,hr⟩:=hr
 exact ACallsTo.forget rfl (bQ ae (aw _) hO (ax _) hr)
set_option maxRecDepth 8192 in
set_option maxHeartbeats 6400000 in
theorem Lw(s:Sheet) (hs:s.Ok) (C ev:List AV) (hC:C.length=34) (hCc:AV.closeds C=true) (hl:ev.length=32) (hck:∀x∈ev,x.cellOk=true) (n:Int) (r1 r2:Slot)
  (hM:ACallsTo Tryz.prog 8 [gF s 2 3,.agg C,.str [110]] (JC s C) (.agg ev) (gZ s C [r1,r2])) (hG:dH (gZ s C [r1,r2]) (gF s 2 3) ev n):
  ACallsTo Tryz.prog 4 [s.av,.agg C,.int .i64 n] [] (.bool true) []:=by
 have hF:aN Tryz.prog 4=some Tryz.f4:=by kernel_rfl
 have r0:=cD hCc
 have o0:=eU hCc
 have t34:C.take 34=C:=List.take_of_length_le (by omega)
 have t32:ev.take 32=ev:=List.take_of_length_le (by omega)
 have g1:ev.all AV.cellOk=true:=List.all_eq_true.2 hck
 have key:∃E B ok,(∀Z,ACallsTo Tryz.prog 13 [gF s 2 3,.agg ev,.int .i64 n] ((gZ s C [r1,r2])++Z) E ((gZ s C [r1,r2])++Z))∧(∀Z,ACallsTo Tryz.prog 14 [gF s 2 3,.agg ev,.int .i64 n] ((gZ s C [r1,r2])++Z) B ((gZ s C [r1,r2])++Z))∧(∀Z,ACallsTo Tryz.prog 15 [.agg ev,.int .i64 n] ((gZ s C [r1,r2])++Z) (.bool ok) ((gZ s C [r1,r2])++Z))∧((ok=true∧(∃r b,E=.tuple [.str r,.bool b,.int .i64 0])∧∃a1 a2 a3 a4 a5 a6 a7 a8 a9 a10 a11 a12,B=.tuple [.agg [.str a1,.str a2,.str a3,.str a4,.str a5,.str a6,.str a7,.str a8,.str a9,.str a10,.str a11,.str a12],.int .i64 0])∨(ok=false∧E=.tuple [.str [],.bool false,.int .i64 10]∧B=.tuple [zAf,.int .i64 10])):=by
  rcases hG with⟨r,b,R,v,h1,h2,h3⟩ | ⟨h1,h2,h3⟩
  ·exact⟨_,_,_,h1,h2,h3,.inl ⟨rfl,⟨_,_,rfl⟩,_,_,_,_,_,_,_,_,_,_,_,_,rfl⟩⟩
  ·exact⟨_,_,_,h1,h2,h3,.inr ⟨rfl,rfl,rfl⟩⟩
 clear hG
 obtain⟨E,B,ok,h1,h2,h3,hcs⟩:=key
 obtain⟨L,hL⟩:∃L:List (FuncId×List AV×(Mem→Prop)×CallRes),L=[(6,[],(fun _=>True),⟨.bool true,none,[]⟩),(7,[s.av],(fun M=>M.length=2),⟨gF s 2 3,none,[.cells true 2 (pC s.P),.cells true 3 (tC s.T)]⟩),(8,[gF s 2 3,.agg C,.str [110]],(fun M=>M=(JC s C)),⟨.agg ev,none,[r1,r2]⟩),(13,[gF s 2 3,.agg ev,.int .i64 n],(fun M=>∃Z,M=(gZ s C [r1,r2])++Z),⟨E,none,[]⟩),(14,[gF s 2 3,.agg ev,.int .i64 n],(fun M=>∃Z,M=(gZ s C [r1,r2])++Z),⟨B,none,[]⟩),(15,[.agg ev,.int .i64 n],(fun M=>∃Z,M=(gZ s C [r1,r2])++Z),⟨.bool ok,none,[]⟩)]:=⟨_,rfl⟩
 have hO:OracleOk Tryz.prog (cr L):=jT fun z hz M hp=>by
  rw[hL] at hz
  simp only[List.mem_cons,List.not_mem_nil,or_false] at hz
  rcases hz with rfl | rfl | rfl | rfl | rfl | rfl
  ·exact ah (by simpa using jf M)
  ·have hp:M.length=2:=hp
   have:=ir s hs M
   rw[hp] at this
   exact ah this
  ·have hp:M=_:=hp
   rw[hp]
   exact ah hM
  ·obtain⟨Z,rfl⟩:=hp
   exact ah (by simpa using h1 Z)
  ·obtain⟨Z,rfl⟩:=hp
   exact ah (by simpa using h2 Z)
  ·obtain⟨Z,rfl⟩:=hp
   exact ah (by simpa using h3 Z)
 have e1:∀M,cr L (.fn 6) [] M=some ⟨.bool true,none,[]⟩:=fun M=>by rw[hL];exact bn trivial
 have e2:∀M:Mem,M.length=2→cr L (.fn 7) [.agg [.int .u8 s.kind,.int .i8 s.sx,.int .i8 s.sy,.bool s.half]] M=some ⟨.agg [.slice 2 0 s.P.length none,.slice 3 0 s.T.length none],none,[.cells true 2 (pC s.P),.cells true 3 (tC s.T)]⟩:=fun M hM=>by rw[hL,ar (.inl (by decide))];exact bn hM
 have e3:cr L (.fn 8) [.agg [.slice 2 0 s.P.length none,.slice 3 0 s.T.length none],.agg C,.str [110]] [.cells true 0 [.int .u8 s.kind,.int .i8 s.sx,.int .i8 s.sy,.bool s.half],.cells true 0 C,.cells true 2 (pC s.P),.cells true 3 (tC s.T),.cells true 0 [.slice 2 0 s.P.length none,.slice 3 0 s.T.length none]]=some ⟨.agg ev,none,[r1,r2]⟩:=by rw[hL,ar (.inl (by decide)),ar (.inl (by decide))];exact bn rfl
 have e4:∀Z,cr L (.fn 13) [.agg [.slice 2 0 s.P.length none,.slice 3 0 s.T.length none],.agg ev,.int .i64 n] (.cells true 0 [.int .u8 s.kind,.int .i8 s.sx,.int .i8 s.sy,.bool s.half]::.cells true 0 C::.cells true 2 (pC s.P)::.cells true 3 (tC s.T)::.cells true 0 [.slice 2 0 s.P.length none,.slice 3 0 s.T.length none]::r1::r2::Z)=some ⟨E,none,[]⟩:=fun Z=>by rw[hL,ar (.inl (by decide)),ar (.inl (by decide)),ar (.inl (by decide))];exact bn ⟨Z,rfl⟩
 have e5:∀Z,cr L (.fn 14) [.agg [.slice 2 0 s.P.length none,.slice 3 0 s.T.length none],.agg ev,.int .i64 n] (.cells true 0 [.int .u8 s.kind,.int .i8 s.sx,.int .i8 s.sy,.bool s.half]::.cells true 0 C::.cells true 2 (pC s.P)::.cells true 3 (tC s.T)::.cells true 0 [.slice 2 0 s.P.length none,.slice 3 0 s.T.length none]::r1::r2::Z)=some ⟨B,none,[]⟩:=fun Z=>by rw[hL,ar (.inl (by decide)),ar (.inl (by decide)),ar (.inl (by decide)),ar (.inl (by decide))];exact bn ⟨Z,rfl⟩
 have e6:∀Z,cr L (.fn 15) [.agg ev,.int .i64 n] (.cells true 0 [.int .u8 s.kind,.int .i8 s.sx,.int .i8 s.sy,.bool s.half]::.cells true 0 C::.cells true 2 (pC s.P)::.cells true 3 (tC s.T)::.cells true 0 [.slice 2 0 s.P.length none,.slice 3 0 s.T.length none]::r1::r2::Z)=some ⟨.bool ok,none,[]⟩:=fun Z=>by rw[hL,ar (.inl (by decide)),ar (.inl (by decide)),ar (.inl (by decide)),ar (.inl (by decide)),ar (.inl (by decide))];exact bn ⟨Z,rfl⟩
 have e0:=nn
 unfold zAf at e0 hcs
 obtain⟨O,hOe⟩:∃O,O=cr L:=⟨_,rfl⟩
 rw[←hOe] at hO e1 e2 e3 e4 e5 e6
 clear hOe hL h1 h2 h3 hM
 have hr:∃new,bT (aO Tryz.prog) (fun _=>[]) (aN Tryz.prog) O 1 4 [s.av,.agg C,.int .i64 n] []=some (.bool true,[]++new):=by
  rcases hcs with⟨rfl,⟨r,b,rfl⟩,a1,a2,a3,a4,a5,a6,a7,a8,a9,a10,a11,a12,rfl⟩ | ⟨rfl,rfl,rfl⟩<;>
   simp (maxSteps:=1000000) [-AV.cellOk,-AV.known,-List.all_eq_true,vS,bT,hF,Tryz.f4,Sheet.av,e0,e1,e2,e3,e4,e5,e6,hC,t34,t32,hl,g1,bx]
 obtain⟨new,hr⟩:=hr
 exact ACallsTo.forget rfl (bQ ae (aw _) hO (ax _) hr)
set_option maxRecDepth 8192 in
set_option maxHeartbeats 6400000 in
theorem Lx(s:Sheet) (hs:s.Ok) (C ev:List AV) (hC:C.length=34) (hCc:AV.closeds C=true) (hl:ev.length=32) (hck:∀x∈ev,x.cellOk=true) (n:Int) (r1 r2 r3 r4:Slot)
  (hM:ACallsTo Tryz.prog 8 [gF s 2 3,.agg C,.str [110]] (JC s C) (.agg ev) (gZ s C [r1,r2,r3,r4])) (hG:dH (gZ s C [r1,r2,r3,r4]) (gF s 2 3) ev n):
  ACallsTo Tryz.prog 4 [s.av,.agg C,.int .i64 n] [] (.bool true) []:=by
 have hF:aN Tryz.prog 4=some Tryz.f4:=by kernel_rfl
 have r0:=cD hCc
 have o0:=eU hCc
 have t34:C.take 34=C:=List.take_of_length_le (by omega)
 have t32:ev.take 32=ev:=List.take_of_length_le (by omega)
 have g1:ev.all AV.cellOk=true:=List.all_eq_true.2 hck
 have key:∃E B ok,(∀Z,ACallsTo Tryz.prog 13 [gF s 2 3,.agg ev,.int .i64 n] ((gZ s C [r1,r2,r3,r4])++Z) E ((gZ s C [r1,r2,r3,r4])++Z))∧(∀Z,ACallsTo Tryz.prog 14 [gF s 2 3,.agg ev,.int .i64 n] ((gZ s C [r1,r2,r3,r4])++Z) B ((gZ s C [r1,r2,r3,r4])++Z))∧(∀Z,ACallsTo Tryz.prog 15 [.agg ev,.int .i64 n] ((gZ s C [r1,r2,r3,r4])++Z) (.bool ok) ((gZ s C [r1,r2,r3,r4])++Z))∧((ok=true∧(∃r b,E=.tuple [.str r,.bool b,.int .i64 0])∧∃a1 a2 a3 a4 a5 a6 a7 a8 a9 a10 a11 a12,B=.tuple [.agg [.str a1,.str a2,.str a3,.str a4,.str a5,.str a6,.str a7,.str a8,.str a9,.str a10,.str a11,.str a12],.int .i64 0])∨(ok=false∧E=.tuple [.str [],.bool false,.int .i64 10]∧B=.tuple [zAf,.int .i64 10])):=by
  rcases hG with⟨r,b,R,v,h1,h2,h3⟩ | ⟨h1,h2,h3⟩
  ·exact⟨_,_,_,h1,h2,h3,.inl ⟨rfl,⟨_,_,rfl⟩,_,_,_,_,_,_,_,_,_,_,_,_,rfl⟩⟩
  ·exact⟨_,_,_,h1,h2,h3,.inr ⟨rfl,rfl,rfl⟩⟩
 clear hG
 obtain⟨E,B,ok,h1,h2,h3,hcs⟩:=key
 obtain⟨L,hL⟩:∃L:List (FuncId×List AV×(Mem→Prop)×CallRes),L=[(6,[],(fun _=>True),⟨.bool true,none,[]⟩),(7,[s.av],(fun M=>M.length=2),⟨gF s 2 3,none,[.cells true 2 (pC s.P),.cells true 3 (tC s.T)]⟩),(8,[gF s 2 3,.agg C,.str [110]],(fun M=>M=(JC s C)),⟨.agg ev,none,[r1,r2,r3,r4]⟩),(13,[gF s 2 3,.agg ev,.int .i64 n],(fun M=>∃Z,M=(gZ s C [r1,r2,r3,r4])++Z),⟨E,none,[]⟩),(14,[gF s 2 3,.agg ev,.int .i64 n],(fun M=>∃Z,M=(gZ s C [r1,r2,r3,r4])++Z),⟨B,none,[]⟩),(15,[.agg ev,.int .i64 n],(fun M=>∃Z,M=(gZ s C [r1,r2,r3,r4])++Z),⟨.bool ok,none,[]⟩)]:=⟨_,rfl⟩
 have hO:OracleOk Tryz.prog (cr L):=jT fun z hz M hp=>by
  rw[hL] at hz
  simp only[List.mem_cons,List.not_mem_nil,or_false] at hz
  rcases hz with rfl | rfl | rfl | rfl | rfl | rfl
  ·exact ah (by simpa using jf M)
  ·have hp:M.length=2:=hp
   have:=ir s hs M
   rw[hp] at this
   exact ah this
  ·have hp:M=_:=hp
   rw[hp]
   exact ah hM
  ·obtain⟨Z,rfl⟩:=hp
   exact ah (by simpa using h1 Z)
  ·obtain⟨Z,rfl⟩:=hp
   exact ah (by simpa using h2 Z)
  ·obtain⟨Z,rfl⟩:=hp
   exact ah (by simpa using h3 Z)
 have e1:∀M,cr L (.fn 6) [] M=some ⟨.bool true,none,[]⟩:=fun M=>by rw[hL];exact bn trivial
 have e2:∀M:Mem,M.length=2→cr L (.fn 7) [.agg [.int .u8 s.kind,.int .i8 s.sx,.int .i8 s.sy,.bool s.half]] M=some ⟨.agg [.slice 2 0 s.P.length none,.slice 3 0 s.T.length none],none,[.cells true 2 (pC s.P),.cells true 3 (tC s.T)]⟩:=fun M hM=>by rw[hL,ar (.inl (by decide))];exact bn hM
 have e3:cr L (.fn 8) [.agg [.slice 2 0 s.P.length none,.slice 3 0 s.T.length none],.agg C,.str [110]] [.cells true 0 [.int .u8 s.kind,.int .i8 s.sx,.int .i8 s.sy,.bool s.half],.cells true 0 C,.cells true 2 (pC s.P),.cells true 3 (tC s.T),.cells true 0 [.slice 2 0 s.P.length none,.slice 3 0 s.T.length none]]=some ⟨.agg ev,none,[r1,r2,r3,r4]⟩:=by rw[hL,ar (.inl (by decide)),ar (.inl (by decide))];exact bn rfl
 have e4:∀Z,cr L (.fn 13) [.agg [.slice 2 0 s.P.length none,.slice 3 0 s.T.length none],.agg ev,.int .i64 n] (.cells true 0 [.int .u8 s.kind,.int .i8 s.sx,.int .i8 s.sy,.bool s.half]::.cells true 0 C::.cells true 2 (pC s.P)::.cells true 3 (tC s.T)::.cells true 0 [.slice 2 0 s.P.length none,.slice 3 0 s.T.length none]::r1::r2::r3::r4::Z)=some ⟨E,none,[]⟩:=fun Z=>by rw[hL,ar (.inl (by decide)),ar (.inl (by decide)),ar (.inl (by decide))];exact bn ⟨Z,rfl⟩
 have e5:∀Z,cr L (.fn 14) [.agg [.slice 2 0 s.P.length none,.slice 3 0 s.T.length none],.agg ev,.int .i64 n] (.cells true 0 [.int .u8 s.kind,.int .i8 s.sx,.int .i8 s.sy,.bool s.half]::.cells true 0 C::.cells true 2 (pC s.P)::.cells true 3 (tC s.T)::.cells true 0 [.slice 2 0 s.P.length none,.slice 3 0 s.T.length none]::r1::r2::r3::r4::Z)=some ⟨B,none,[]⟩:=fun Z=>by rw[hL,ar (.inl (by decide)),ar (.inl (by decide)),ar (.inl (by decide)),ar (.inl (by decide))];exact bn ⟨Z,rfl⟩
 have e6:∀Z,cr L (.fn 15) [.agg ev,.int .i64 n] (.cells true 0 [.int .u8 s.kind,.int .i8 s.sx,.int .i8 s.sy,.bool s.half]::.cells true 0 C::.cells true 2 (pC s.P)::.cells true 3 (tC s.T)::.cells true 0 [.slice 2 0 s.P.length none,.slice 3 0 s.T.length none]::r1::r2::r3::r4::Z)=some ⟨.bool ok,none,[]⟩:=fun Z=>by rw[hL,ar (.inl (by decide)),ar (.inl (by decide)),ar (.inl (by decide)),ar (.inl (by decide)),ar (.inl (by decide))];exact bn ⟨Z,rfl⟩
 have e0:=nn
 unfold zAf at e0 hcs
 obtain⟨O,hOe⟩:∃O,O=cr L:=⟨_,rfl⟩
 rw[←hOe] at hO e1 e2 e3 e4 e5 e6
 clear hOe hL h1 h2 h3 hM
 have hr:∃new,bT (aO Tryz.prog) (fun _=>[]) (aN Tryz.prog) O 1 4 [s.av,.agg C,.int .i64 n] []=some (.bool true,[]++new):=by
  rcases hcs with⟨rfl,⟨r,b,rfl⟩,a1,a2,a3,a4,a5,a6,a7,a8,a9,a10,a11,a12,rfl⟩ | ⟨rfl,rfl,rfl⟩<;>
   simp (maxSteps:=1000000) [-AV.cellOk,-AV.known,-List.all_eq_true,vS,bT,hF,Tryz.f4,Sheet.av,e0,e1,e2,e3,e4,e5,e6,hC,t34,t32,hl,g1,bx]
 obtain⟨new,hr⟩:=hr
 exact ACallsTo.forget rfl (bQ ae (aw _) hO (ax _) hr)
set_option maxRecDepth 8192 in
set_option maxHeartbeats 6400000 in
theorem Ly(s:Sheet) (hs:s.Ok) (C ev:List AV) (hC:C.length=34) (hCc:AV.closeds C=true) (hl:ev.length=32) (hck:∀x∈ev,x.cellOk=true) (n:Int) (r1 r2 r3 r4 r5:Slot)
  (hM:ACallsTo Tryz.prog 8 [gF s 2 3,.agg C,.str [110]] (JC s C) (.agg ev) (gZ s C [r1,r2,r3,r4,r5])) (hG:dH (gZ s C [r1,r2,r3,r4,r5]) (gF s 2 3) ev n):
  ACallsTo Tryz.prog 4 [s.av,.agg C,.int .i64 n] [] (.bool true) []:=by
 have hF:aN Tryz.prog 4=some Tryz.f4:=by kernel_rfl
 have r0:=cD hCc
 have o0:=eU hCc
 have t34:C.take 34=C:=List.take_of_length_le (by omega)
 have t32:ev.take 32=ev:=List.take_of_length_le (by omega)
 have g1:ev.all AV.cellOk=true:=List.all_eq_true.2 hck
 have key:∃E B ok,(∀Z,ACallsTo Tryz.prog 13 [gF s 2 3,.agg ev,.int .i64 n] ((gZ s C [r1,r2,r3,r4,r5])++Z) E ((gZ s C [r1,r2,r3,r4,r5])++Z))∧(∀Z,ACallsTo Tryz.prog 14 [gF s 2 3,.agg ev,.int .i64 n] ((gZ s C [r1,r2,r3,r4,r5])++Z) B ((gZ s C [r1,r2,r3,r4,r5])++Z))∧(∀Z,ACallsTo Tryz.prog 15 [.agg ev,.int .i64 n] ((gZ s C [r1,r2,r3,r4,r5])++Z) (.bool ok) ((gZ s C [r1,r2,r3,r4,r5])++Z))∧((ok=true∧(∃r b,E=.tuple [.str r,.bool b,.int .i64 0])∧∃a1 a2 a3 a4 a5 a6 a7 a8 a9 a10 a11 a12,B=.tuple [.agg [.str a1,.str a2,.str a3,.str a4,.str a5,.str a6,.str a7,.str a8,.str a9,.str a10,.str a11,.str a12],.int .i64 0])∨(ok=false∧E=.tuple [.str [],.bool false,.int .i64 10]∧B=.tuple [zAf,.int .i64 10])):=by
  rcases hG with⟨r,b,R,v,h1,h2,h3⟩ | ⟨h1,h2,h3⟩
  ·exact⟨_,_,_,h1,h2,h3,.inl ⟨rfl,⟨_,_,rfl⟩,_,_,_,_,_,_,_,_,_,_,_,_,rfl⟩⟩
  ·exact⟨_,_,_,h1,h2,h3,.inr ⟨rfl,rfl,rfl⟩⟩
 clear hG
 obtain⟨E,B,ok,h1,h2,h3,hcs⟩:=key
 obtain⟨L,hL⟩:∃L:List (FuncId×List AV×(Mem→Prop)×CallRes),L=[(6,[],(fun _=>True),⟨.bool true,none,[]⟩),(7,[s.av],(fun M=>M.length=2),⟨gF s 2 3,none,[.cells true 2 (pC s.P),.cells true 3 (tC s.T)]⟩),(8,[gF s 2 3,.agg C,.str [110]],(fun M=>M=(JC s C)),⟨.agg ev,none,[r1,r2,r3,r4,r5]⟩),(13,[gF s 2 3,.agg ev,.int .i64 n],(fun M=>∃Z,M=(gZ s C [r1,r2,r3,r4,r5])++Z),⟨E,none,[]⟩),(14,[gF s 2 3,.agg ev,.int .i64 n],(fun M=>∃Z,M=(gZ s C [r1,r2,r3,r4,r5])++Z),⟨B,none,[]⟩),(15,[.agg ev,.int .i64 n],(fun M=>∃Z,M=(gZ s C [r1,r2,r3,r4,r5])++Z),⟨.bool ok,none,[]⟩)]:=⟨_,rfl⟩
 have hO:OracleOk Tryz.prog (cr L):=jT fun z hz M hp=>by
  rw[hL] at hz
  simp only[List.mem_cons,List.not_mem_nil,or_false] at hz
  rcases hz with rfl | rfl | rfl | rfl | rfl | rfl
  ·exact ah (by simpa using jf M)
  ·have hp:M.length=2:=hp
   have:=ir s hs M
   rw[hp] at this
   exact ah this
  ·have hp:M=_:=hp
   rw[hp]
   exact ah hM
  ·obtain⟨Z,rfl⟩:=hp
   exact ah (by simpa using h1 Z)
  ·obtain⟨Z,rfl⟩:=hp
   exact ah (by simpa using h2 Z)
  ·obtain⟨Z,rfl⟩:=hp
   exact ah (by simpa using h3 Z)
 have e1:∀M,cr L (.fn 6) [] M=some ⟨.bool true,none,[]⟩:=fun M=>by rw[hL];exact bn trivial
 have e2:∀M:Mem,M.length=2→cr L (.fn 7) [.agg [.int .u8 s.kind,.int .i8 s.sx,.int .i8 s.sy,.bool s.half]] M=some ⟨.agg [.slice 2 0 s.P.length none,.slice 3 0 s.T.length none],none,[.cells true 2 (pC s.P),.cells true 3 (tC s.T)]⟩:=fun M hM=>by rw[hL,ar (.inl (by decide))];exact bn hM
 have e3:cr L (.fn 8) [.agg [.slice 2 0 s.P.length none,.slice 3 0 s.T.length none],.agg C,.str [110]] [.cells true 0 [.int .u8 s.kind,.int .i8 s.sx,.int .i8 s.sy,.bool s.half],.cells true 0 C,.cells true 2 (pC s.P),.cells true 3 (tC s.T),.cells true 0 [.slice 2 0 s.P.length none,.slice 3 0 s.T.length none]]=some ⟨.agg ev,none,[r1,r2,r3,r4,r5]⟩:=by rw[hL,ar (.inl (by decide)),ar (.inl (by decide))];exact bn rfl
 have e4:∀Z,cr L (.fn 13) [.agg [.slice 2 0 s.P.length none,.slice 3 0 s.T.length none],.agg ev,.int .i64 n] (.cells true 0 [.int .u8 s.kind,.int .i8 s.sx,.int .i8 s.sy,.bool s.half]::.cells true 0 C::.cells true 2 (pC s.P)::.cells true 3 (tC s.T)::.cells true 0 [.slice 2 0 s.P.length none,.slice 3 0 s.T.length none]::r1::r2::r3::r4::r5::Z)=some ⟨E,none,[]⟩:=fun Z=>by rw[hL,ar (.inl (by decide)),ar (.inl (by decide)),ar (.inl (by decide))];exact bn ⟨Z,rfl⟩
 have e5:∀Z,cr L (.fn 14) [.agg [.slice 2 0 s.P.length none,.slice 3 0 s.T.length none],.agg ev,.int .i64 n] (.cells true 0 [.int .u8 s.kind,.int .i8 s.sx,.int .i8 s.sy,.bool s.half]::.cells true 0 C::.cells true 2 (pC s.P)::.cells true 3 (tC s.T)::.cells true 0 [.slice 2 0 s.P.length none,.slice 3 0 s.T.length none]::r1::r2::r3::r4::r5::Z)=some ⟨B,none,[]⟩:=fun Z=>by rw[hL,ar (.inl (by decide)),ar (.inl (by decide)),ar (.inl (by decide)),ar (.inl (by decide))];exact bn ⟨Z,rfl⟩
 have e6:∀Z,cr L (.fn 15) [.agg ev,.int .i64 n] (.cells true 0 [.int .u8 s.kind,.int .i8 s.sx,.int .i8 s.sy,.bool s.half]::.cells true 0 C::.cells true 2 (pC s.P)::.cells true 3 (tC s.T)::.cells true 0 [.slice 2 0 s.P.length none,.slice 3 0 s.T.length none]::r1::r2::r3::r4::r5::Z)=some ⟨.bool ok,none,[]⟩:=fun Z=>by rw[hL,ar (.inl (by decide)),ar (.inl (by decide)),ar (.inl (by decide)),ar (.inl (by decide)),ar (.inl (by decide))];exact bn ⟨Z,rfl⟩
 have e0:=nn
 unfold zAf at e0 hcs
 obtain⟨O,hOe⟩:∃O,O=cr L:=⟨_,rfl⟩
 rw[←hOe] at hO e1 e2 e3 e4 e5 e6
 clear hOe hL h1 h2 h3 hM
 have hr:∃new,bT (aO Tryz.prog) (fun _=>[]) (aN Tryz.prog) O 1 4 [s.av,.agg C,.int .i64 n] []=some (.bool true,[]++new):=by
  rcases hcs with⟨rfl,⟨r,b,rfl⟩,a1,a2,a3,a4,a5,a6,a7,a8,a9,a10,a11,a12,rfl⟩ | ⟨rfl,rfl,rfl⟩<;>
   simp (maxSteps:=1000000) [-AV.cellOk,-AV.known,-List.all_eq_true,vS,bT,hF,Tryz.f4,Sheet.av,e0,e1,e2,e3,e4,e5,e6,hC,t34,t32,hl,g1,bx]
 obtain⟨new,hr⟩:=hr
 exact ACallsTo.forget rfl (bQ ae (aw _) hO (ax _) hr)
theorem sc(s:Sheet) (hs:s.Ok) (x:Sketch) (hx:x.Ok) (n:Int):ACallsTo Tryz.prog 4 [s.av,.agg x.cells,.int .i64 n] [] (.bool true) []:=by
 obtain⟨p1,p2⟩:=qc s
 have hM:=DO x hx s.P.length s.T.length p1 p2 (JC s x.cells) 2 3 (by show 2<5;omega) (by show 3<5;omega)
 have hG:=Iv (x:=x) (s:=s) (M:=JC s x.cells) (p:=2) (t:=3) rfl rfl n
 have hE:=ND x s.P.length p1 (JC s x.cells)
 have l5:(JC s x.cells).length=5:=rfl
 rw[l5] at hM hG hE
 have hc:=Sketch.cells_len hx
 have h3:=iA x
 unfold MJ at hM hG
 rcases pO x.kind with h | h | h | h | h
 ·simp only[h,if_true] at hM hG
  rcases h3 with h3 | h3 | h3
  ·rw[h3] at hM hG
   exact Lw s hs _ _ hc x.closed hE.l32 hE.cok n _ _ hM hG
  ·rw[h3] at hM hG
   exact Lx s hs _ _ hc x.closed hE.l32 hE.cok n _ _ _ _ hM hG
  ·rw[h3] at hM hG
   exact Ly s hs _ _ hc x.closed hE.l32 hE.cok n _ _ _ _ _ hM hG
 ·simp only[h,Nat.one_ne_zero,if_false,show¬(1:Nat)=2 by decide] at hM hG
  exact uv s hs _ _ hc x.closed hE.l32 hE.cok n hM hG
 ·simp only[h,show¬(2:Nat)=0 by decide,if_false,if_true] at hM hG
  exact Lv s hs _ _ hc x.closed hE.l32 hE.cok n _ hM hG
 ·simp only[h,show¬(3:Nat)=0 by decide,if_false,show¬(3:Nat)=2 by decide] at hM hG
  exact uv s hs _ _ hc x.closed hE.l32 hE.cok n hM hG
 ·simp only[h,show¬(4:Nat)=0 by decide,if_false,show¬(4:Nat)=2 by decide] at hM hG
  exact uv s hs _ _ hc x.closed hE.l32 hE.cok n hM hG
end Go.Proofs
