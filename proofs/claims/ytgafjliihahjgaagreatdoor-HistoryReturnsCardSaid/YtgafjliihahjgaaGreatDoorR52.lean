/- See R54. -/
import Derived.Test.YtgafjliihahjgaaGreatDoorR51
import Derived.Test.YtgafjliihahjgaaGreatDoorR36
set_option linter.all false
set_option maxRecDepth 100000
set_option maxHeartbeats 40000000
namespace Go.Proofs
open Go.Eng
open Tryz
section
variable {O:adM}{N new:Mem}{s:aeE}{a:AV}{x:Z3}{p t q n:Nat}{v:V3}
theorem Ja:(aG f4).map (fun o=>eY o.toList)=[[0,1,0,0,15,0,0,127,255]]:=by kernel_rfl
theorem O9{o1 o2:Bool}(hN:3≤N.length)(ha:a=.kK∨∃k,a=.slice 0 0 k none)(h1:∀Z,(N++Z)[1]? =some (.cells o1 0 [.int .u8 s.kind,.int .i8 s.sx,.int .i8 s.sy,.bool s.half,a]))(h2:∀Z,(N++Z)[2]? =some (.cells o2 0 [.int .i8 x.1,.int .i8 x.2.1,.int .i8 x.2.2]))(ok:OkN (N.length+new.length) new)(hr:afU (N.length+new.length) (aP s p t q n))(eM:O (.fn 9) [iA s a] N=some ⟨.agg (aP s p t q n),none,new⟩)(eP:O (.fn 16) [iA s a,zB x] (N++new)=some ⟨vA v,none,[]⟩)(hT:∀env:Env,(ab env 5=.ptr (N++new).length 0∧ab env 6=.ptr ((N++new).length+1) 0)→cj O iM ((N++new)++[.cells true 0 (aP s p t q n),.cells true 0 (vL v)]) env):
  ∀env:Env,(ab env 2=.ptr 1 0∧ab env 3=.ptr 2 0)→cj O (.seq (fy 2 ba) iM) N env:=by
 rintro env ⟨l2,l3⟩ d;obtain⟨os',FS⟩:∃os',aG f4=os' :=⟨_,rfl⟩
 have XU :=bj FS (ls:=[[0,1,0,0,15,0,0,127,255]]) Ja;simp only[aG,bF,f4,List.nil_append,List.append_nil] at FS;subst FS;simp only[List.map_cons,List.map_nil,List.cons.injEq,and_true] at XU;have XY:=XU;have Yj:∀j,(N.length+j<1)=False:=fun j=>by rw[eq_iff_iff,iff_false];omega
 have YJ:(N.length<1)=False:=by rw[eq_iff_iff,iff_false];omega
 have hjk:(N.length≤0)=False:=by rw[eq_iff_iff,iff_false];omega
 have hj1:(1<N.length)=True:=by rw[eq_iff_iff,iff_true];omega
 have hj2:(2<N.length)=True:=by rw[eq_iff_iff,iff_true];omega
 have hj0:(0<N.length)=True:=by rw[eq_iff_iff,iff_true];omega
 have hjp:∀j,(0<N.length+j)=True:=fun j=>by rw[eq_iff_iff,iff_true];omega
 have tk:∀Z:Mem,(N++Z).take 1=N.take 1:=fun Z=>List.take_append_of_le_length (by omega)
 have YS :N[1]? =some (.cells o1 0 [.int .u8 s.kind,.int .i8 s.sx,.int .i8 s.sy,.bool s.half,a]):=by have:=h1 [];rwa [List.append_nil] at this
 have ZZ :N[2]? =some (.cells o2 0 [.int .i8 x.1,.int .i8 x.2.1,.int .i8 x.2.2]):=by have:=h2 [];rwa [List.append_nil] at this
 obtain⟨F,hF⟩:=jq (β:=Env×Mem×Bool) (fun env d h=>hT env h d);have I':=fun env d h=>(hF env d h).1
 have T':=fun env d h=>(hF env d h).2.1
 have Yh:=fun env d h=>(hF env d h).2.2
 clear hF hT;obtain⟨T,YK⟩:∃T,T=iM:=⟨_,rfl⟩
 rw[←YK];simp only[←YK] at I';have Zd:=iW q n;have kev:(evV q n).known=true:=by unfold evV;split<;>rfl
 have o_0:=ok (fun b=>decide (b<N.length+new.length)) (by intro b hb;simp only[decide_eq_true_eq];exact hb);have q_1:=fun j=>hr (fun b=>decide (b<N.length+(new.length+j))) (by intro b hb;simp only[decide_eq_true_eq];omega)
 have q_0:=hr (fun b=>decide (b<N.length+new.length)) (by intro b hb;simp only[decide_eq_true_eq];omega);unfold aP at eM I' T' Yh q_1 q_0;simp only[AV.aeB,Bool.and_eq_true] at q_1 q_0;have q11:=fun j=>(q_1 j).1
 have q12:=fun j=>(q_1 j).2.1
 have q13:=fun j=>(q_1 j).2.2.2.1
 obtain⟨q01,q02,_,q03,_⟩:=q_0;clear q_1 hr ok;obtain⟨E,hE⟩:∃E,E=evV q n:=⟨_,rfl⟩
 simp only[←hE] at Zd kev eM I' Yh q13 q03;unfold vA iA zB at eP;unfold iA at eM;simp only[vL,List.append_assoc,List.length_append,Nat.add_assoc,tk] at I' T' Yh;have h:∃e',aN (aM prog) KF O 6 189 1 true (.seq (fy 2 ba) T) ⟨env,N,d⟩=some (.ret,e')∧ab e'.env 4=.bool true∧e'.mem.take 1=N.take 1:=by
  clear YK hE;rcases ha with rfl | ⟨k,rfl⟩<;>
  simp[-getElem?_pos,-AV.kS,-AV.known,-AV.cells,-bk,-List.all_eq_true,vS,rS,mS,ba,f4,fy,hjk,hj0,hj1,hj2,hjp,-bp,-aZ,-aE,-AV.y9,-aeD.y9,fq,aY XY,cO,cd,fz,cY,bW,iT,bef,Nat.testBit,h1,h2,YS,l2,l3,Zd,o_0,q11,q12,q13,q01,q02,q03,eM,eP,I',T',Yh]
 obtain⟨⟨e1,e2,e3⟩,k1,k2,k3⟩:=h;exact⟨(e1,e2,e3),k1,k2,k3⟩
end
theorem L4{O:adM}(hO:kP prog O){s:aeE}{a:AV}{x:Z3}{X:aeD}(acT:a.kS=true)(acU:a.known=true)(hX:aeD.refs 1 X=[]∧∀f,aeD.ren f X=X)(e1:O (.fn 7) [] [X,.cells true 0 [.int .u8 s.kind,.int .i8 s.sx,.int .i8 s.sy,.bool s.half,a],.cells true 0 [.int .i8 x.1,.int .i8 x.2.1,.int .i8 x.2.2]]=some ⟨.bool true,none,[]⟩)(e2:O (.fn 8) [iA s a] [X,.cells true 0 [.int .u8 s.kind,.int .i8 s.sx,.int .i8 s.sy,.bool s.half,a],.cells true 0 [.int .i8 x.1,.int .i8 x.2.1,.int .i8 x.2.2]]=some ⟨.bool true,none,[]⟩)(hT:∀env:Env,(ab env 2=.ptr 1 0∧ab env 3=.ptr 2 0)→cj O (.seq (fy 2 ba) iM) [X,.cells true 0 [.int .u8 s.kind,.int .i8 s.sx,.int .i8 s.sy,.bool s.half,a],.cells true 0 [.int .i8 x.1,.int .i8 x.2.1,.int .i8 x.2.2]] env):
  kF prog 4 [iA s a,zB x] [X] (.bool true) [X]:=by
 have hG:aT prog 4=some f4:=by kernel_rfl
 obtain⟨x1,x2⟩:=hX;have hb:=TI;obtain⟨F,hF⟩:=jq (β:=Env×Mem×Bool) (fun env d h=>hT env h d);have I':=fun env d h=>(hF env d h).1
 have T':=fun env d h=>(hF env d h).2.1
 have Yh:=fun env d h=>(hF env d h).2.2
 clear hF hT;obtain⟨T,YK⟩:∃T,T=Code.seq (fy 2 ba) iM:=⟨_,rfl⟩
 simp only[←YK] at I';rw[←YK] at hb;simp only[List.take_succ_cons,List.take_zero] at Yh;have h:∃r,ad (aM prog) KF (aT prog) O 6 4 [iA s a,zB x] [X]=some r∧r.v=.bool true∧r.mem [X]=[X]:=by unfold ad;rw[hG];dsimp only;rw[hb];dsimp only;clear YK hb hO;simp only[iA] at e2;simp[-AV.kS,-AV.known,-AV.cells,vS,-lD,-List.all_eq_true,ba,f4,fy,-aeD.ren,-aeD.refs,iA,zB,e1,e2,I',T',Yh,x1,x2];split<;>simp[-aeD.ren,-aeD.refs]
 obtain⟨r,h1,h2,h3⟩:=h;have:=(ak ae (aq _) hO (au _) h1).1
 rwa [h2,h3] at this
end Go.Proofs
namespace Go.Proofs
open Go.Eng
open Tryz
theorem yV{g:FuncId}{a:List AV}{m:Mem}:∀{L:List (FuncId×List AV×(Mem→Prop)×HS)},(∀x∈L,x.1≠g)→cw L (.fn g) a m=none
 | [],_=>rfl
 |x::L,h=>by rw[cw,if_neg (fun e=>h x (by simp) (by have:=e.1;cases this;rfl))];exact yV fun y hy=>h y (by simp[hy])
theorem Xf{v w:V3}(h:vA v=vA w):v=w:=by obtain⟨a,b,c⟩:=v;obtain⟨a',b',c'⟩:=w;unfold vA at h;simp only[AV.agg.injEq,List.cons.injEq,AV.str.injEq,and_true] at h;obtain⟨h1,h2,h3⟩:=h;rw[gO h1,gO h2,gO h3]
theorem AY{A B Y:Mem}{b:Nat}{x:aeD}(h:∀Z,(A++Z)[b]? =some x)(e:B=A++Y):∀Z,(B++Z)[b]? =some x:=fun Z=>by rw[e,List.append_assoc];exact h _
theorem Pt{us:List Evc}{L:List (List UInt8)}(k:Nat)(h:uT L (us.map unE)=false):uT L ((us.take k).map unE)=false:=by
 induction us generalizing L k with
 |nil=>simpa using h
 |cons x us ih=>
  cases k with
  |zero=>rfl
  |succ k=>
   simp only[List.take_succ_cons,List.map_cons,uT,Bool.or_eq_false_iff] at h ⊢;exact⟨h.1,ih k h.2⟩
section
variable {s:aeE}{p t q:Nat}{evs:List (List AV)}{cs:List Evc}{M:Mem}{ws:List EvD}{v:V3}
theorem Ea(H:ae2 s p t q evs cs M)(hd:uT [ar] (cs.map unE)=false)(h3:cs.length≤3)(hwl:ws.length=cs.length)(hw:∀(i:Nat) c w,cs[i]? =some c→ws[i]? =some w→w.Ok s∧c=w.con c.nm):
  ∃O:adM,kP prog O∧∀(b:Bool) (w:V3) (i:Nat) (Y:Mem),plL b (if b then (ws.drop i).reverse else ws.drop i) w→i≤cs.length→O (.fn (if b then 12 else 13)) [.agg (aP s p t q cs.length),vA w,.int .i64 (i:Int)] (M++Y)=some ⟨.tuple [vA (mvI ws b i w),.int .i64 0],none,[]⟩:=by
 obtain⟨O,hO,hf⟩:=jY (P:=prog) (ι:=Bool×V3×Nat×Mem) (fun x=>plL x.1 (if x.1 then (ws.drop x.2.2.1).reverse else ws.drop x.2.2.1) x.2.1∧x.2.2.1≤cs.length) (fun x=>.fn (if x.1 then 12 else 13)) (fun x=>[.agg (aP s p t q cs.length),vA x.2.1,.int .i64 (x.2.2.1:Int)]) (fun x=>M++x.2.2.2) (fun x=>⟨.tuple [vA (mvI ws x.1 x.2.2.1 x.2.1),.int .i64 0],none,[]⟩)
  (fun x hx=>af (by simpa using xU (H.more x.2.2.2) hd h3 hwl hw x.1 hx.1 hx.2))
  (fun x y _ _ hc ha _=>by
   obtain⟨b,w,i,Y⟩:=x;obtain⟨b',w',i',Y'⟩:=y;simp only[List.cons.injEq,AV.int.injEq,true_and,and_true] at hc ha ⊢;obtain⟨h1,h2⟩:=ha;have e1:=Xf h1;have e2:i=i' :=by omega
   have e3:b=b' :=by cases b<;>cases b' <;>first | rfl | (simp at hc)
   subst e1;subst e2;subst e3;rfl)
 exact⟨O,hO,fun b w i Y h1 h2=>hf (b,w,i,Y) ⟨h1,h2⟩⟩
theorem DP(hw:∀w∈ws,w.Ok s)(h3:ws.length≤3)(hv:plK 0 v)(b:Bool)(i:Nat):plL b (if b then (ws.drop i).reverse else ws.drop i) v:=by
 refine Vt (s:=s) (k:=0) (fun w hx=>?_) hv ?_
 ·cases b
  ·exact hw w (List.mem_of_mem_drop hx)
  ·exact hw w (List.mem_of_mem_drop (List.mem_reverse.1 hx))
 ·cases b<;>simp<;>omega
section
variable (hwl:ws.length=cs.length)(hw:∀(i:Nat) c w,cs[i]? =some c→ws[i]? =some w→w.Ok s∧c=w.con c.nm)
include hwl hw
theorem Tryz.ae2.ahD:∀w∈ws,w.Ok s:=fun w h=>by obtain⟨i,hi⟩:=List.getElem?_of_mem h;have hl:=(gL hi);exact(hw i _ w (List.getElem?_eq_getElem (by omega)) hi).1
theorem Tryz.ae2.ahk{w:EvD}(h:w∈ws){u:List UInt8}(hu:∀nm,u∈unE (w.con nm)):u∈(cs.map unE).flatten:=by obtain⟨i,hi⟩:=List.getElem?_of_mem h;have hl:=(gL hi);have hc:cs[i]? =some cs[i]:=List.getElem?_eq_getElem (by omega);refine List.mem_flatten.2 ⟨unE cs[i],List.mem_map.2 ⟨_,List.getElem_mem _,rfl⟩,?_⟩;rw[(hw i _ w hc hi).2];exact hu _
end
theorem UZ{N:Mem}{X6:AV}{l:List Int}(h:aeJ N X6 1 l.length (l.map fun n=>.int .i64 n))(M:Mem):lD (aM prog) 45 M X6=some (.int .i64 l.length):=by
 rcases h with⟨rfl,h,_⟩ | ⟨b,o,rfl,_,_⟩
 ·simp[h]
 ·simp
theorem L3(H:ae2 s p t q evs cs M)(hd:uT [ar] (cs.map unE)=false)(h3:cs.length≤3)(hv:plK 0 v):
  ∃L O1,kP prog (cw L)∧kP prog O1∧(∀y∈L,y.1=11∨y.1=17∨y.1=18∨y.1=19∨y.1=10)∧
   ∀O,(∀c a m r,cw L c a m=some r→O c a m=some r)→(∀(b:Bool) a m r,O1 (.fn (if b then 12 else 13)) a m=some r→O (.fn (if b then 12 else 13)) a m=some r)→
    ∀env:Env,(ab env 5=.ptr M.length 0∧ab env 6=.ptr (M.length+1) 0)→cj O iM (M++[.cells true 0 (aP s p t q cs.length),.cells true 0 (vL v)]) env:=by
 obtain⟨ws,hwl,hw⟩:=H.ahz;have hwo:=ae2.ahD hwl hw;obtain⟨n,hn⟩:∃n,n=cs.length:=⟨_,rfl⟩
 have Zd:=iW q n;have F':=jD q n;obtain⟨M1,hM1⟩:∃M1,M1=M++[.cells true 0 (aP s p t q n),.cells true 0 (vL v)]:=⟨_,rfl⟩
 have H1:ae2 s p t q evs cs M1:=by rw[hM1];exact H.more _
 have m1:1≤M1.length:=by rw[hM1,List.length_append];simp
 have hh1:∀Z,(M1++Z)[M.length]? =some (.cells true 0 (aP s p t q n)):=fun Z=>by rw[hM1,List.append_assoc,tO];rfl
 have hv1:∀Z,(M1++Z)[M.length+1]? =some (.cells true 0 (vL v)):=fun Z=>by rw[hM1,List.append_assoc,dC];rfl
 obtain⟨O1,YC,hbf⟩:=Ea H1 hd h3 hwl hw;rw[←hn] at h3 hwl hbf;obtain⟨N1,hN1⟩:∃N1,N1=M1++rtZ (fun i=>mvI ws true i v) (fun i=>mvI ws false i v) v (n+1):=⟨_,rfl⟩
 have aex:∃Y,N1=M1++Y:=⟨_,hN1⟩
 have H2:ae2 s p t q evs cs N1:=by rw[hN1];exact H1.more _
 have hvr:plL true ws.reverse v:=by have:=DP (s:=s) hwo (by omega) hv true 0;simpa using this
 obtain⟨YR,X6,cF,kp,YE⟩:=DV H2 hd (by omega) (by omega) hw hvr;have fe:=V0 s ws.reverse v;have fl:=R4 s ws.reverse v;have fu:=Nr s ws.reverse v (fun w h=>hwo w (List.mem_reverse.1 h));rw[List.length_reverse,hwl] at fe fl;obtain⟨f,hf⟩:∃f,f=jV s ws.reverse v:=⟨_,rfl⟩
 rw[←hf] at cF YE fe fl fu;rw[←hn] at cF;obtain⟨N2,Yv⟩:∃N2:Mem,N2=N1++(YR++[.cells true 0 [.str f.u,X6,.int .i64 f.e,.str (aw f.q.1),.str (aw f.q.2.1),.str (aw f.q.2.2)]]):=⟨_,rfl⟩
 have H3:ae2 s p t q evs cs N2:=by rw[Yv];exact H2.more _
 obtain⟨uv,X,cU,hU⟩:=DW H3 hd;rw[←hn] at cU;obtain⟨N3,hN3⟩:∃N3,N3=N2++X:=⟨_,rfl⟩
 have sU:sts N3 uv=some (ar::(cs.map unE).flatten):=by rw[hN3];have:=hU [];rwa [List.append_nil] at this
 have kU:uv.known=true:=by
  rcases rD sU with h | ⟨rfl,_⟩
  ·obtain⟨b,o,c,rfl,_⟩:=h
   rfl
  ·rfl
 have cC:f.u≠[]→kF prog 18 [uv,.str f.u] N3 (.bool true) N3:=fun hu=>by
  have:=kA f.u H3.ahj sU
  rwa [decide_eq_true (show f.u∈ar::(cs.map unE).flatten from by
   rcases fu with h | h | ⟨w,hx,h⟩
   ·exact absurd h hu
   ·rw[h];exact List.mem_cons_self
   ·exact List.mem_cons_of_mem _ (ae2.ahk (by omega) hw (List.mem_reverse.1 hx) h))] at this
 have H4:ae2 s p t q evs cs N3:=by rw[hN3];exact H3.more _
 obtain⟨w,hwd⟩:∃w,w=mvI ws true (n-1) v:=⟨_,rfl⟩
 obtain⟨N4,hN4⟩:∃N4:Mem,N4=N3++[.cells true 0 (vL w)]:=⟨_,rfl⟩
 have H5:ae2 s p t q evs cs N4:=by rw[hN4];exact H4.more _
 obtain⟨p',t',q',aaj,aaU,cB,HB,okB⟩:=DU H5 hd (n-1) (by omega);rw[←hn] at cB;obtain⟨N5,hN5⟩:∃N5:Mem,N5=N4++(aaU++[.cells true 0 (aP s p' t' q' (n-1))]):=⟨_,rfl⟩
 have H6:ae2 s p' t' q' aaj (cs.take (n-1)) N5:=by rw[hN5,←List.append_assoc];exact HB.more _
 have tl:(cs.take (n-1)).length=n-1:=by rw[List.length_take];omega
 have cA:f.e≠(n:Int)-1→n≠0→kF prog 10 [.agg (aP s p' t' q' (n-1)),vA w] N5 (.tuple [.str f.u,.int .i64 0]) N5:=fun he h0=>by
  have hwt:∀(i:Nat) c w,(cs.take (n-1))[i]? =some c→(ws.take (n-1))[i]? =some w→w.Ok s∧c=w.con c.nm:=fun i c w h1 h2=>by
   rw[List.getElem?_take] at h1 h2;split at h1
   ·rename_i hi
    rw[if_pos hi] at h2;exact hw i c w h1 h2
   ·cases h1
  obtain⟨wl,ad2⟩:∃wl,ws[n-1]? =some wl:=⟨_,List.getElem?_eq_getElem (by omega)⟩
  have ed:ws.drop (n-1)=[wl]:=by obtain⟨A',e⟩:=List.getElem?_eq_some_iff.1 ad2;rw[List.drop_eq_getElem_cons A',e,List.drop_of_length_le (by omega)]
  have er:ws.reverse=wl::(ws.take (n-1)).reverse:=by
   conv=>lhs;rw[←List.take_append_drop (n-1) ws,ed]
   simp
  have ew:w=wl.mv true v:=by rw[hwd];unfold mvI;rw[if_pos rfl,ed];rfl
  have hp:plL true (ws.take (n-1)).reverse w:=by rw[ew];rw[er] at hvr;exact hvr.2
  have h:=Qk H6 (Pt (n-1) hd) (by omega) (by rw[tl,List.length_take];omega) hwt hp;rw[tl] at h;have eu:f.u=(jV s (ws.take (n-1)).reverse w).u:=by rw[hf,er,ew];refine Uy ?_;rw[hf,er] at he;rw[List.length_reverse,List.length_take];omega
  rw[eu];exact h
 refine⟨[(11,[.agg (aP s p t q n),vA v],(fun N=>N=N1),⟨.tuple [.agg [.str f.u,X6,.int .i64 f.e,.str (aw f.q.1),.str (aw f.q.2.1),.str (aw f.q.2.2)],.int .i64 0],none,YR⟩),(17,[.agg (aP s p t q n)],(fun N=>N=N2),⟨.tuple [uv,.int .i64 0],none,X⟩),(18,[uv,.str f.u],(fun N=>N=N3∧f.u≠[]),⟨.bool true,none,[]⟩),
  (19,[.agg (aP s p t q n),.int .i64 ((n-1:Nat):Int)],(fun N=>N=N4),⟨.tuple [.agg (aP s p' t' q' (n-1)),.int .i64 0],none,aaU⟩),(10,[.agg (aP s p' t' q' (n-1)),vA w],(fun N=>N=N5∧f.e≠(n:Int)-1∧n≠0),⟨.tuple [.str f.u,.int .i64 0],none,[]⟩)],O1,gH fun y hy N hp=>?_,YC,fun y hy=>?_,fun O hO hB env ad3=>?_⟩
 ·simp only[List.mem_cons,List.not_mem_nil,or_false] at hy
  rcases hy with rfl | rfl | rfl | rfl | rfl
  ·subst hp;exact af cF
  ·subst hp;exact af cU
  ·obtain⟨rfl,hu⟩:=hp;exact af (by simpa using cC hu)
  ·subst hp;exact af cB
  ·obtain⟨rfl,he,h0⟩:=hp;exact af (by simpa using cA he h0)
 ·simp only[List.mem_cons,List.not_mem_nil,or_false] at hy
  rcases hy with rfl | rfl | rfl | rfl | rfl<;>simp
 have eF:=hO _ _ _ _ (bl (f:=11) (a:=[.agg (aP s p t q n),vA v]) (p:=fun N=>N=N1) (r:=⟨.tuple [.agg [.str f.u,X6,.int .i64 f.e,.str (aw f.q.1),.str (aw f.q.2.1),.str (aw f.q.2.2)],.int .i64 0],none,YR⟩) (m:=N1) rfl);have eU:=hO (.fn 17) [.agg (aP s p t q n)] N2 ⟨.tuple [uv,.int .i64 0],none,X⟩ (by rw[aC (.inl (by decide))];exact bl rfl);have eC:f.u≠[]→O (.fn 18) [uv,.str f.u] N3=some ⟨.bool true,none,[]⟩:=fun hu=>hO _ _ _ _ (by rw[aC (.inl (by decide)),aC (.inl (by decide))];exact bl ⟨rfl,hu⟩)
 have eB:=hO (.fn 19) [.agg (aP s p t q n),.int .i64 ((n-1:Nat):Int)] N4 ⟨.tuple [.agg (aP s p' t' q' (n-1)),.int .i64 0],none,aaU⟩ (by rw[aC (.inl (by decide)),aC (.inl (by decide)),aC (.inl (by decide))];exact bl rfl);have eA:f.e≠(n:Int)-1→n≠0→O (.fn 10) [.agg (aP s p' t' q' (n-1)),vA w] N5=some ⟨.tuple [.str f.u,.int .i64 0],none,[]⟩:=fun he h0=>hO _ _ _ _ (by rw[aC (.inl (by decide)),aC (.inl (by decide)),aC (.inl (by decide)),aC (.inl (by decide))];exact bl ⟨rfl,he,h0⟩)
 clear hO;have hbO:∀(b:Bool) (w:V3) (i:Nat) (Y:Mem),plL b (if b then (ws.drop i).reverse else ws.drop i) w→i≤n→O (.fn (if b then 12 else 13)) [.agg (aP s p t q n),vA w,.int .i64 (i:Int)] (M1++Y)=some ⟨.tuple [vA (mvI ws b i w),.int .i64 0],none,[]⟩:=fun b w i Y h1 h2=>hB b _ _ _ (hbf b w i Y h1 h2)
 rw[←hn,←hM1];have hh:=hh1;have aey:N2=N1++(YR++[.cells true 0 [.str f.u,X6,.int .i64 f.e,.str (aw f.q.1),.str (aw f.q.2.1),.str (aw f.q.2.2)]]):=Yv;have acV:=AY hh1 hN1;have acW:=AY hv1 hN1;have acX:=AY acV Yv;have ad4:=AY acW Yv;have abg:=AY acX hN3;have ad5:=AY ad4 hN3;have ad6:=AY abg hN4;have ad7:∀Z,(N2++Z)[N1.length+YR.length]? =some (.cells true 0 [.str f.u,X6,.int .i64 f.e,.str (aw f.q.1),.str (aw f.q.2.1),.str (aw f.q.2.2)]):=fun Z=>by rw[Yv,List.append_assoc,dC,List.append_assoc,tO];rfl
 have abH:=AY ad7 hN3;have ad8:=AY abH hN4;have ad9:=AY ad8 hN5;have ad':∀Z,(N4++Z)[N3.length]? =some (.cells true 0 (vL w)):=fun Z=>by rw[hN4,List.append_assoc,tO];rfl
 have aea:=AY ad' hN5;have aeb:∀Z,(N5++Z)[N4.length+aaU.length]? =some (.cells true 0 (aP s p' t' q' (n-1))):=fun Z=>by rw[hN5,List.append_assoc,dC,List.append_assoc,tO];rfl
 have g1:1≤N1.length:=by rw[hN1,List.length_append];omega
 have g2:1≤N2.length:=by rw[Yv,List.length_append];omega
 have g3:1≤N3.length:=by rw[hN3,List.length_append];omega
 have g4:1≤N4.length:=by rw[hN4,List.length_append];omega
 have g5:1≤N5.length:=by rw[hN5,List.length_append];omega
 have acY :=iW q' (n-1);have aec :(evV q' (n-1)).known=true:=Nk _ _;have aed :(evV q' (n-1)).cells=[evV q' (n-1)]:=by unfold evV;split<;>rfl
 have sD:∀env:Env,(ab env 5=.ptr M.length 0∧ab env 6=.ptr (M.length+1) 0∧ab env 16=.ptr (N1.length+YR.length) 0)→cj O kH N3 env:=by
  by_cases hc:n=0∨f.e=(n:Int)-1
  ·exact O8 g3 rfl rfl Zd abg abH F' (by omega) hc
  ·have h0:n≠0:=fun h=>hc (.inl h)
   have he:f.e≠(n:Int)-1:=fun h=>hc (.inr h)
   have hl:(n:Int)-1=((n-1:Nat):Int):=by omega
   have eK:O (.fn 12) [.agg (aP s p t q n),vA v,.int .i64 ((n-1:Nat):Int)] N3=some ⟨.tuple [vA w,.int .i64 0],none,[]⟩:=by
    obtain⟨Y,hY⟩:∃Y,N3=M1++Y:=⟨_,by rw[hN3,Yv,hN1,List.append_assoc,List.append_assoc]⟩
    rw[hY,hwd];exact hbO true v (n-1) Y (DP (s:=s) hwo (by omega) hv true _) (by omega)
   refine Ro g3 rfl rfl Zd abg abH F' (by omega) h0 he fun env h=>?_
   refine Rp (bt:=N1.length+YR.length) (l:=((n-1:Nat):Int)) (w:=w) g3 rfl rfl Zd abg ad5 eK (fun env h=>?_) env ⟨h.1,h.2.1,h.2.2.1,by rw[h.2.2.2,hl]⟩;rw[←hN4] at*;refine Rq (bt:=N1.length+YR.length) (bw:=N3.length) (l:=((n-1:Nat):Int)) g4 rfl rfl Zd ad6 ⟨rfl,rfl,acY⟩ ⟨rfl,rfl,aec⟩ ⟨rfl,rfl,aed⟩ eB (fun env h=>?_) env h;have aee :N4++(aaU++[.cells true 0 [.slice p' 0 s.P.length none,.slice t' 0 s.T.length none,.str ar,evV q' (n-1)]])=N5:=hN5.symm;rw[aee];exact Rr (bt:=N1.length+YR.length) (bw:=N3.length) (bb:=N4.length+aaU.length) g5 ad9 aeb aea kp ⟨rfl,rfl,acY⟩ (eA he h0) env h
 have sC:=Rn (bt:=N1.length+YR.length) (L:=f.l) g3 rfl rfl Zd abg abH kp F' (UZ YE) fl (by omega) fe eC sD;have sB:=Rm (bt:=N1.length+YR.length) (X:=X) (bv:=M.length+1) g2 rfl rfl Zd acX kU eU (by rw[←hN3];exact sC);have sA:=Rl (q:=f.q) g1 rfl rfl Zd acV acW kp eF (by rw[←Yv];exact sB);exact Jd (va:=fun i=>mvI ws true i v) (vc:=fun i=>mvI ws false i v) m1 rfl rfl Zd h3 F' hh1 hv1 (fun i hi Y=>hbO true v i Y (DP (s:=s) hwo (by omega) hv true i) hi)
  (fun i hi Y=>by have:=hbO false (mvI ws true i v) i Y (SR hwo true (DP (s:=s) hwo (by omega) hv true i)) hi;rw[show mvI ws false i (mvI ws true i v)=v from SB hwo true i v] at this;exact this) (fun i hi Y=>hbO false v i Y (DP (s:=s) hwo (by omega) hv false i) hi)
  (fun i hi Y=>by have:=hbO true (mvI ws false i v) i Y (SR hwo false (DP (s:=s) hwo (by omega) hv false i)) hi;rw[show mvI ws true i (mvI ws false i v)=v from SB hwo false i v] at this;exact this) (by rw[←hN1];exact sA) env ad3
end
end Go.Proofs
namespace Go.Proofs
open Go.Eng
open Tryz
theorem Mk(ds:List aeN):AV.aeR 1 (fO ds)=[]:=by
 induction ds with
 |nil=>rfl
 |cons d l ih=>exact ih
theorem E8(ds:List aeN):AV.aeG (fO ds)=true:=by
 induction ds with
 |nil=>rfl
 |cons d l ih=>exact ih
theorem Ku{ds:List aeN}{X:aeD}(h:X=.kO∨X=.cells false 12 (fO ds)):aeD.refs 1 X=[]∧∀f,aeD.ren f X=X:=by
 rcases h with rfl | rfl
 ·exact⟨rfl,fun _=>rfl⟩
 ·exact⟨Mk ds,fun f=>congrArg (aeD.cells false 12) (bQ (E8 ds))⟩
theorem jP(s:aeE)(hs:s.Ok)(ds:List aeN)(hd:∀d∈ds,d.Ok)(X:aeD)(a:AV)(hx:Wz ds X a)(hX:X=.kO∨X=.cells false 12 (fO ds))(x:Z3)(hz:z8 x):
  kF prog 4 [iA s a,zB x] [X] (.bool true) [X]:=by
 have hG:aT prog 4=some f4:=by kernel_rfl
 have YA:=fun N=>Oe s a ds.length (by rcases hx with⟨rfl,rfl⟩ | ⟨_,rfl⟩;exact .inl ⟨rfl,rfl⟩;exact .inr rfl) N
 have acT:a.kS=true:=by rcases hx with⟨_,rfl⟩ | ⟨_,rfl⟩<;>rfl
 have acU:a.known=true:=by rcases hx with⟨_,rfl⟩ | ⟨_,rfl⟩<;>rfl
 by_cases h3:ds.length≤3
 rotate_left
 ·have hO:kP prog (ag (cK [(7,[],.bool true),(8,[iA s a],.bool false)])):=fa fun y hy M=>by
   simp only[List.mem_cons,List.not_mem_nil,or_false] at hy;rcases hy with rfl | rfl
   ·exact uh M
   ·have:=YA M;rwa [decide_eq_false h3] at this
  have h:ad (aM prog) (fun _=>[]) (aT prog) (ag (cK [(7,[],.bool true),(8,[iA s a],.bool false)])) 1 4 [iA s a,zB x] [X]=some ⟨.bool true,none,[]⟩:=by clear hO YA;simp[-AV.kS,-List.all_eq_true,ad,hG,f4,ag,cK,iA,zB];done
  have:=(ak ae (aq _) hO (au _) h).1;simpa [HS.mem] using this
 obtain⟨N,hN⟩:∃N:Mem,N=[X,.cells true 0 [.int .u8 s.kind,.int .i8 s.sx,.int .i8 s.sy,.bool s.half,a],.cells true 0 [.int .i8 x.1,.int .i8 x.2.1,.int .i8 x.2.2]]:=⟨_,rfl⟩
 have hlN:N.length=3:=by rw[hN];rfl
 have hxN:(ds=[]∧a=.kK)∨∃b o,N[b]? =some (.cells o 12 (fO ds))∧a=.slice b 0 ds.length none:=by
  rcases hx with⟨h,rfl⟩ | ⟨h,rfl⟩
  ·exact .inl ⟨h,rfl⟩
  ·refine .inr ⟨0,false,?_,rfl⟩
   rw[hN];simpa using h
 obtain⟨q,evs,cs,new,hK,H,ok,Z0,hl⟩:=Lb s hs ds hd h3 N a hxN;have hd0:uT [ar] (cs.map unE)=false:=Df (by simpa using Z0);have hP:=Gi s x hz a (N++new) (by
  rcases hxN with⟨_,h⟩ | ⟨b,o,hb,h⟩
  ·exact .inl h
  ·exact .inr ⟨b,_,h,by rw[List.length_append];have:=(gL hb);omega⟩)
 have hF:=YA N;rw[decide_eq_true h3] at hF;obtain⟨L,O1,hL,Yn,hLF,Yi⟩:=L3 H hd0 (by omega) (W1 s x hz);obtain⟨H1,aaV⟩:∃L:List (FuncId×List AV×(Mem→Prop)×HS),L=[(7,[],(fun M=>M=N),⟨.bool true,none,[]⟩),(8,[iA s a],(fun M=>M=N),⟨.bool true,none,[]⟩),(9,[iA s a],(fun M=>M=N),⟨.agg (aP s (N.length+2) (N.length+3) q cs.length),none,new⟩),(16,[iA s a,zB x],(fun M=>M=N++new),⟨vA (plV s x),none,[]⟩)]:=⟨_,rfl⟩
 have YC:kP prog (cw H1):=gH fun y hy M hp=>by
  rw[aaV] at hy;simp only[List.mem_cons,List.not_mem_nil,or_false] at hy;rcases hy with rfl | rfl | rfl | rfl<;>simp only at hp<;>rw[hp]
  ·exact af (by simpa using uh N)
  ·exact af (by simpa using hF)
  ·exact af hK
  ·exact af (by simpa using hP)
 obtain⟨O,hOe⟩:∃O,O=adM.or (cw L) (adM.or (cw H1) O1):=⟨_,rfl⟩
 have hO:kP prog O:=by rw[hOe];exact kP.or hL (kP.or YC Yn)
 have abJ:∀c a m r,cw L c a m=some r→O c a m=some r:=fun c a m r h=>by rw[hOe];exact MI h
 have hH1:∀y∈H1,y.1=7∨y.1=8∨y.1=9∨y.1=16:=fun y hy=>by rw[aaV] at hy;simp only[List.mem_cons,List.not_mem_nil,or_false] at hy;rcases hy with rfl | rfl | rfl | rfl<;>simp
 have acp:∀(b:Bool) a m r,O1 (.fn (if b then 12 else 13)) a m=some r→O (.fn (if b then 12 else 13)) a m=some r:=fun b a m r h=>by rw[hOe,Fq (yV fun y hy e=>by rcases hLF y hy with h | h | h | h | h<;>rw[h] at e<;>cases b<;>simp at e),Fq (yV fun y hy e=>by rcases hH1 y hy with h | h | h | h<;>rw[h] at e<;>cases b<;>simp at e)];exact h
 have ZT:∀f a m r,(f=7∨f=8∨f=9∨f=16)→cw H1 (.fn f) a m=some r→O (.fn f) a m=some r:=fun f a m r hf h=>by rw[hOe,Fq (yV fun y hy e=>by rcases hLF y hy with h | h | h | h | h<;>rw[h] at e<;>rcases hf with h | h | h | h<;>rw[h] at e<;>simp at e)];exact MI h
 have e1:O (.fn 7) [] N=some ⟨.bool true,none,[]⟩:=ZT _ _ _ _ (.inl rfl) (by rw[aaV];exact bl rfl);have e2:O (.fn 8) [iA s a] N=some ⟨.bool true,none,[]⟩:=ZT _ _ _ _ (.inr (.inl rfl)) (by rw[aaV,aC (.inl (by decide))];exact bl rfl);have e3:O (.fn 9) [iA s a] N=some ⟨.agg (aP s (N.length+2) (N.length+3) q cs.length),none,new⟩:=ZT _ _ _ _ (.inr (.inr (.inl rfl))) (by rw[aaV,aC (.inl (by decide)),aC (.inl (by decide))];exact bl rfl);have e4:O (.fn 16) [iA s a,zB x] (N++new)=some ⟨vA (plV s x),none,[]⟩:=ZT _ _ _ _ (.inr (.inr (.inr rfl))) (by rw[aaV,aC (.inl (by decide)),aC (.inl (by decide)),aC (.inl (by decide))];exact bl rfl);have hmk:=O9 (o1:=true) (o2:=true) (by omega:3≤N.length) (by rcases hx with⟨_,h⟩ | ⟨_,h⟩;exact .inl h;exact .inr ⟨_,h⟩) (fun Z=>by rw[hN];rfl) (fun Z=>by rw[hN];rfl) ok (by have:=H.refs;rwa [List.length_append] at this) e3 e4 (Yi O abJ acp);rw[hN] at e1 e2 hmk;exact L4 hO acT acU (Ku hX) e1 e2 hmk
end Go.Proofs
