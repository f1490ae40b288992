/- Part 45 of the proof. No conditions. -/
import Derived.Test.YtbjnhllkdilpfaaZb44
namespace Go.Proofs.Ytbjnhllkdilpfaa
open Go.RowKit
set_option linter.unusedSimpArgs false
set_option linter.unusedVariables false
set_option maxHeartbeats 16000000
set_option maxRecDepth 100000
structure Bz (D wz:Nat) (ts:List T) (x:oL) (w:World):Prop where
 tr:UJ D x=ts
 len:x.ns.length<=1048576
 own:w.ownsRow wz 76 7 x.val x.ns.length (x.ns.flatMap ax.cells)
 kids:∀y∈x.ns,okS (fun b=>wz<=b/\some b≠x.val.ownBlock) D y w
theorem Bz.old {D wz:Nat} {ts:List T} {x:oL} {w w':World} (h:Bz D wz ts x w) (hb:Below w.heap.size w w'):Bz D wz ts x w':=
 ⟨h.tr,h.len,aP h.own hb,fun y hy=>(h.kids y hy).keep fun q hq hlt=>⟨hq,Nat.lt_of_lt_of_le hlt hb.size,hb.block q hlt⟩⟩
theorem Bz.mono {D wz wz':Nat} {ts:List T} {x:oL} {w:World} (h:Bz D wz ts x w) (hz:wz'<=wz):Bz D wz' ts x w:=
 ⟨h.tr,h.len,dF h.own hz,fun y hy=>(h.kids y hy).keep fun q hq hlt=>⟨⟨Nat.le_trans hz hq.1,hq.2⟩,hlt,rfl⟩⟩
theorem Bz.ok {D wz B1:Nat} {ts:List T} {x:oL} {w:World} {v1 v2:Value} (h:Bz D wz ts x w) (hB:B1<=wz) (h1:∀k,v1.ownBlock=some k->k<wz) (h2:∀k,v2.ownBlock=some k->k<wz):x.ok (kM B1 v1 v2) D w:=
 Tm (A:=x.A) (c:=x.c) rfl h.len h.own h.kids hB h1 h2
theorem UM {D:Nat} {v:Value} {ns:List ax} {w:World} (h:UK D v ns w):Calls Try.prog 18 #[v] w fun e w'=>∃x:oL,e=.returned x.val/\Bz D w.heap.size (ns.map (bV D)) x w'/\Below w.heap.size w w':=by
 obtain⟨A,c,rfl,hrd⟩:=h.ex;refine(CU D ns A c w h.kids hrd h.len).mono ?_;rintro e w' ⟨A',c',l',rfl,hl,hs,hown,hok,hb⟩;refine⟨⟨A',c',l'⟩,by rw[<-hl];rfl,⟨?_,by show l'.length<=_;have:=h.len;omega,by show w'.ownsRow _ _ _ (.slice A' l'.length c') _ _;rw[hl];exact hown,fun y hy=>by show okS (fun b=>_/\some b≠(Value.slice A' l'.length c').ownBlock) D y w';rw[hl];exact hok y hy⟩,hb⟩;unfold UJ
 apply List.ext_getElem (by simpa using hl)
 intro i h9 h10;simp only[List.length_map]at h9 h10;rw[List.getElem_map,List.getElem_map];exact(JL (h.kids _ (List.getElem_mem h10)) (hok _ (List.getElem_mem h9)).n (hs i _ _ (List.getElem?_eq_getElem h10) (List.getElem?_eq_getElem h9))).symm
def su (D B:Nat) (t:uV) (v:Value) (W:World):Prop:=∃(kv:Value) (A:Option Addr) (c:Nat) (dK:List pz),v=.agg #[.int .i64 t.aS,kv,.slice A dK.length c]/\W.ownsRow B 3 1 kv t.keys.length (aI t.keys)/\W.ownsRow B 44 8 (.slice A dK.length c) dK.length (dK.flatMap pz.cells)/\(∀st∈dK,Ls (fun q=>B<=q/\some q≠(Value.slice A dK.length c).ownBlock) D st W)/\dK.map (rP D)=t.states
def uX:uV:=⟨0,[],[]⟩
theorem su.zero (D B:Nat) (W:World):su D B uX (.agg #[.int .i64 0,.slice none 0 0,.slice none 0 0]) W:=
 ⟨_,none,0,[],rfl,World.ownsRow_nil _ _ _ _,World.ownsRow_nil _ _ _ _,fun st hs=>absurd hs (by simp),rfl⟩
def tC (D:Nat) (t:lW) (w:World) (e:Ending) (w':World):Prop:=∃av:Value,e=.returned (.tuple #[av,.int .i64 (iL t).2])/\su D w.heap.size (iL t).1 av w'/\Below w.heap.size w w'
theorem jU (w:World):(sizeOf 34).run Try.prog w=.ok 3 w:=by
 obtain⟨i,hi,h0,h1,h2⟩:=info_parts (show(Try.prog.info? 34).map (fun i=>(i.zero,i.size,i.bytes))=some (some (.agg #[.int .i64 0,.slice none 0 0,.slice none 0 0]),3,56) by kernel_rfl);simp[sizeOf,typeInfo,hi,h1]
theorem Lt (w:World):(sizeOf 31).run Try.prog w=.ok 4 w:=by
 obtain⟨i,hi,h0,h1,h2⟩:=info_parts (show(Try.prog.info? 31).map (fun i=>(i.zero,i.size,i.bytes))=some (some (.agg #[.int .i64 0,.int .i64 0,.slice none 0 0,.slice none 0 0]),4,64) by kernel_rfl);simp[sizeOf,typeInfo,hi,h1]
theorem Gu (w:World):(sizeOf 28).run Try.prog w=.ok 3 w:=by
 obtain⟨i,hi,h0,h1,h2⟩:=info_parts (show(Try.prog.info? 28).map (fun i=>(i.zero,i.size,i.bytes))=some (some (.agg #[.int .i64 0,.int .i64 0,.slice none 0 0]),3,40) by kernel_rfl);simp[sizeOf,typeInfo,hi,h1]
theorem Tn:(Try.prog.info? 52).map (fun i=>(i.zero,i.size,i.bytes))=some (some (.agg #[.int .i64 0,.slice none 0 0]),2,32):=by kernel_rfl
theorem JM:(Try.prog.info? 55).map (fun i=>(i.zero,i.size,i.bytes))=some (some (.agg #[.int .i64 0,.slice none 0 0,.slice none 0 0]),3,56):=by kernel_rfl
theorem PN:(Try.prog.info? 44).map (fun i=>(i.zero,i.size,i.bytes))=some (some (.agg #[.int .i64 0,.int .i64 0,.bool false,.int .i64 0,.slice none 0 0,.slice none 0 0,.slice none 0 0,.slice none 0 0]),8,128):=by kernel_rfl
theorem I4 (x0 x1 x3:Int) (b:Bool) (A4 A5 A6:Option Addr) (n4 n5 n6 c4 c5 c6:Nat) (w:World):(Instr.build 44 #[(0,.int .i64 x0),(1,.int .i64 x1),(2,.bool b),(3,.int .i64 x3),(4,.slice A4 n4 c4),(5,.slice A5 n5 c5),(6,.slice A6 n6 c6)]).run Try.prog w=.ok (.agg #[.int .i64 x0,.int .i64 x1,.bool b,.int .i64 x3,.slice A4 n4 c4,.slice A5 n5 c5,.slice A6 n6 c6,.slice none 0 0]) w:=by kernel_rfl
theorem Lu {w : World} {o : Oper} {a : Act} {K : Act → World → Prop} {Q : Exit → Act → World → Prop} {x0 x1 x3 : Int} {b : Bool} {A4 A5 A6 : Option Addr} {n4 n5 n6 c4 c5 c6 : Nat} (p0 p1 p2 p3 p4 p5 p6 : Operand) (ho : o.op = .build 44 #[(0, p0), (1, p1), (2, p2), (3, p3), (4, p4), (5, p5), (6, p6)])
  (h0:a.eval p0=.int .i64 x0) (h1:a.eval p1=.int .i64 x1) (h2:a.eval p2=.bool b) (h3:a.eval p3=.int .i64 x3) (h4:a.eval p4=.slice A4 n4 c4) (h5:a.eval p5=.slice A5 n5 c5) (h6:a.eval p6=.slice A6 n6 c6)
  (h:K (a.put o.dst (.agg #[.int .i64 x0,.int .i64 x1,.bool b,.int .i64 x3,.slice A4 n4 c4,.slice A5 n5 c5,.slice A6 n6 c6,.slice none 0 0])) w):o.wp Try.prog a w K Q:=by
 unfold Oper.wp execOp;simp only[ho,List.map_toArray,List.map_cons,List.map_nil,h0,h1,h2,h3,h4,h5,h6,Sem.run_bind,I4,Result.andThen_ok,Sem.run_pure];exact h
theorem LC (c0 c1 c2 c3 c4 c5 c6 c7:Value) (w:World):(Instr.buildSlice 32 1 #[(0,.agg #[c0,c1,c2,c3,c4,c5,c6,c7])]).run Try.prog w=.ok (.slice (some ⟨w.heap.size,0,none⟩) 1 1) (w.alloc (.cells #[c0,c1,c2,c3,c4,c5,c6,c7] 44)):=by kernel_rfl
theorem PO {w : World} {o : Oper} {a : Act} {K : Act → World → Prop} {Q : Exit → Act → World → Prop} {c0 c1 c2 c3 c4 c5 c6 c7 : Value} (x : Operand) (ho : o.op = .buildSlice 32 1 #[(0, x)]) (hx : a.eval x = .agg #[c0, c1, c2, c3, c4, c5, c6, c7])
  (h:K (a.put o.dst (.slice (some ⟨w.heap.size,0,none⟩) 1 1)) (w.alloc (.cells #[c0,c1,c2,c3,c4,c5,c6,c7] 44))):o.wp Try.prog a w K Q:=by
 unfold Oper.wp execOp;simp only[ho,List.map_toArray,List.map_cons,List.map_nil,hx,Sem.run_bind,LC,Result.andThen_ok,Sem.run_pure];exact h
def xG (bg:Int) (ks:List Int) (rest:List qj) (id:Int) (o:Option Yf):uV×Int:=
 match(match o with|none=>none|some y=>uU rest (Gt id y))with
 |none=>(uX,4)
 |some dK=>(⟨bg,ks,dK⟩,0)
def Xp (pa:Int) (ns:Nat) (dK:List pz):Prop:=pa= -1\/∃pi:Nat,pa=pi/\pi<ns/\∃st,dK[pi]? =some st/\st.ends=[]/\st.eA=none/\st.ec=0
theorem tV.rC {B1 D ga gr:Nat} {bg:Int} {kv:Value} {ks:List Int} {As:Option Addr} {ns cs:Nat} {dK:List pz} {Ab:Option Addr} {nb cb:Nat} {bars:List nO} {lv:oL} {w W:World} (h:tV B1 D ga gr bg kv ks As ns cs dK Ab nb cb bars lv w W):(∀k,(Value.slice As ns cs).ownBlock=some k->k<W.heap.size)/\∀k,(Value.slice Ab nb cb).ownBlock=some k->k<W.heap.size:=
 ⟨fun k hk=>(h.own.lt k hk).2,fun k hk=>(h.bar.lt k hk).2⟩
def PQ (g4 gq gb D wz ns cs nb cb ln lc ng cg fo:Nat) (pa ty win:Int) (mb:Bool) (As Ab LA Ag:Option Addr) (ts:List T):List Spec:=[.is (.pointer (some ⟨g4,2,none⟩)),
 .is (.slice As ns cs),
 .is (.int .i64 pa),
 .is (.pointer (some ⟨gq,1,none⟩)),
 .is (.int .i64 ty),
 .is (.pointer (some ⟨gq,0,none⟩)),
 .is (.int .i64 (fo:Nat)),
 .is (.bool mb),
 .is (.pointer (some ⟨gb,1,none⟩)),
 .is (.int .i64 win),
 .is (.slice Ab nb cb),
 .is (.slice LA ln lc),
 .is (.pointer (some ⟨gq,2,none⟩)),
 .is (.slice Ag ng cg),
 .st (fun v w=>∃x:oL,v=x.val/\Bz D wz ts x w) (fun _ _ _ hb ⟨x,h1,h2⟩=>⟨x,h1,h2.old hb⟩),
 .st (fun v w=>∃x:oL,v=.agg #[.int .i64 pa,.int .i64 ty,.bool mb,.int .i64 win,.slice Ab nb cb,.slice LA ln lc,x.val,.slice none 0 0]/\Bz D wz ts x w) (fun _ _ _ hb ⟨x,h1,h2⟩=>⟨x,h1,h2.old hb⟩),
 .st (fun v w=>∃(g:Nat) (x:oL),v=.slice (some ⟨g,0,none⟩) 1 1/\Bk w g 44 #[.int .i64 pa,.int .i64 ty,.bool mb,.int .i64 win,.slice Ab nb cb,.slice LA ln lc,x.val,.slice none 0 0]/\Bz D wz ts x w) (fun _ _ _ hb ⟨g,x,h1,h2,h3⟩=>⟨g,x,h1,h2.old hb,h3.old hb⟩)]
def PR (gS pi gb id wz nb cb ln lc:Nat) (Ab LA:Option Addr):List Spec:=[.is (.pointer (some ⟨gS,pi*8,none⟩)),
 .is (.pointer (some ⟨gS,pi*8,none⟩)),
 .is (.pointer (some ⟨gS,pi*8,none⟩)),
 .is (.pointer (some ⟨gS,pi*8+7,none⟩)),
 .is (.slice none 0 0),
 .is (.pointer (some ⟨gb,0,none⟩)),
 .is (.int .i64 (id:Nat)),
 .is (.slice LA ln lc),
 .is (.slice Ab nb cb),
 .is (.agg #[.int .i64 (id:Nat),.slice LA ln lc,.slice Ab nb cb]),
 .st (fun v w=>∃g,v=.slice (some ⟨g,0,none⟩) 1 1/\Bk w g 55 #[.int .i64 (id:Nat),.slice LA ln lc,.slice Ab nb cb]) (fun _ _ _ hb ⟨g,h1,h2⟩=>⟨g,h1,h2.old hb⟩),
 .st (fun v w=>∃(ge ce:Nat),v=.slice (some ⟨ge,0,none⟩) 1 ce/\w.ownsRow wz 55 3 (.slice (some ⟨ge,0,none⟩) 1 ce) 1 [.int .i64 (id:Nat),.slice LA ln lc,.slice Ab nb cb]) (fun _ _ _ hb ⟨A,c,h1,h2⟩=>⟨A,c,h1,aP h2 hb⟩)]
def PU (gq D wz nb cb ng cg:Nat) (ty:Int) (Ab Ag:Option Addr) (ts:List T):List Spec:=[.is (.slice Ab nb cb),
 .is (.pointer (some ⟨gq,1,none⟩)),
 .is (.int .i64 ty),
 .is (.pointer (some ⟨gq,2,none⟩)),
 .is (.slice Ag ng cg),
 .st (fun v w=>∃x:oL,v=x.val/\Bz D wz ts x w) (fun _ _ _ hb ⟨x,h1,h2⟩=>⟨x,h1,h2.old hb⟩),
 .st (fun v w=>∃x:oL,v=.agg #[.int .i64 ty,x.val]/\Bz D wz ts x w) (fun _ _ _ hb ⟨x,h1,h2⟩=>⟨x,h1,h2.old hb⟩),
 .st (fun v w=>∃(g:Nat) (x:oL),v=.slice (some ⟨g,0,none⟩) 1 1/\Bk w g 52 #[.int .i64 ty,x.val]/\Bz D wz ts x w) (fun _ _ _ hb ⟨g,x,h1,h2,h3⟩=>⟨g,x,h1,h2.old hb,h3.old hb⟩)]
def Tq (g1 bg nk ck wz:Nat) (ks:List Int) (Ak:Option Addr) (Bq:Nat):List Spec:=[.is (.pointer (some ⟨g1,0,none⟩)),
 .is (.int .i64 (bg:Nat)),
 .is (.pointer (some ⟨g1,1,none⟩)),
 .is (.slice Ak nk ck),
 .st (fun v w=>∃(A:Option Addr) (c:Nat),v=.slice A nk c/\w.ownsRow wz 3 1 (.slice A nk c) nk (aI ks)) (fun _ _ _ hb ⟨A,c,h1,h2⟩=>⟨A,c,h1,aP h2 hb⟩),
 .st (fun v w=>∃(A:Option Addr) (c:Nat),v=.agg #[.int .i64 (bg:Nat),.slice A nk c,.slice none 0 0]/\w.ownsRow wz 3 1 (.slice A nk c) nk (aI ks)) (fun _ _ _ hb ⟨A,c,h1,h2⟩=>⟨A,c,h1,aP h2 hb⟩),
 .st (fun v w=>∃g,v=.pointer (some ⟨g,0,none⟩)/\Bq<=g/\Bk w g 34 #[.int .i64 0,.slice none 0 0,.slice none 0 0]) (fun _ _ _ hb ⟨g,h1,h0,h2⟩=>⟨g,h1,h0,h2.old hb⟩)]
theorem rD (D:Nat) (t:lW) (kv0 bv:Value) (bs:List fB) (w:World) (hp:Yg D kv0 bv t.keys bs w) (ht:bs.map (lU D)=t.branches):Calls Try.prog 6 #[.agg #[.int .i64 t.aS,kv0,bv]] w (tC D t w):=by
 obtain⟨⟨AT,ER⟩,hres⟩:∃z,iL t=z:=⟨_,rfl⟩
 unfold tC;rw[hres];simp only[];have aK:=zH hres;have HP:=zH hp;have HT:=zH ht;obtain⟨Ak,ck,rfl,hkrd⟩:=hp.keys;obtain⟨Xq,cb0,rfl,hbrd⟩:=hp.dC;have BN:=zH hkrd;have QZ:=zH hbrd;obtain⟨bg,Ae⟩:∃z,t.aS=z:=⟨_,rfl⟩
 obtain⟨ks,hks⟩:∃z,t.keys=z:=⟨_,rfl⟩
 obtain⟨nk,hnk⟩:∃z,ks.length=z:=⟨_,rfl⟩
 obtain⟨NB,Uk⟩:∃z,bs.length=z:=⟨_,rfl⟩
 have hnk44:nk<=17592186044416:=by rw[<-hnk,<-hks];exact hp.klen
 have hNB44:NB<=17592186044416:=by rw[<-Uk];exact hp.blen
 rw[Ae,hks,hnk,Uk];have Ue:=zH (And.intro Ae (And.intro hks hnk));have BR:=zH Uk;clear hres hp ht hkrd hbrd Ae hks hnk Uk;obtain⟨iT,hT,hT0,hT1,hT2⟩:=info_parts qL
 go_enter Try.func6,Try.ntmps6
 go_upto_region 1 with fail
 have k1:=Bk.new w 25 #[.int .i64 bg,.slice Ak nk ck,.slice Xq NB cb0];have hb1:Below w.heap.size w (w.alloc (.cells #[.int .i64 bg,.slice Ak nk ck,.slice Xq NB cb0] 25)):=zR.alloc zL _;obtain⟨w1,hw1⟩:∃z,w.alloc (.cells #[.int .i64 bg,.slice Ak nk ck,.slice Xq NB cb0] 25)=z:=⟨_,rfl⟩
 rw[hw1]at k1 hb1⊢;have kr:=Bk.new w1 34 #[.int .i64 0,.slice none 0 0,.slice none 0 0];have hb2:Below w1.heap.size w1 (w1.alloc (.cells #[.int .i64 0,.slice none 0 0,.slice none 0 0] 34)):=zR.alloc zL _;obtain⟨W,hw2⟩:∃z,w1.alloc (.cells #[.int .i64 0,.slice none 0 0,.slice none 0 0] 34)=z:=⟨_,rfl⟩
 rw[hw2]at kr hb2⊢;have hsz1:w1.heap.size=w.heap.size+1:=by rw[<-hw1];simp
 have hbW:=hb1.trans (hb2.mono hb1.size);rw[hsz1]at kr;have k1W:=k1.old hb2;obtain⟨gr,hgr⟩:∃z,w.heap.size+1=z:=⟨_,rfl⟩
 rw[hgr]at kr⊢;obtain⟨g1,hg1⟩:∃z,w.heap.size=z:=⟨_,rfl⟩
 rw[hg1]at k1W⊢;have KE:w.heap.size<=gr:=by omega
 have hg1w:w.heap.size<=g1:=by omega
 have q0:W.cell? ⟨g1,0,none⟩=some (.int .i64 bg):=k1W.cell 0;have q1:W.cell? ⟨g1,1,none⟩=some (.slice Ak nk ck):=k1W.cell 1;have HW0:Hid (Bk W g1 25 #[.int .i64 bg,.slice Ak nk ck,.slice Xq NB cb0]/\Bk W gr 34 #[.int .i64 0,.slice none 0 0,.slice none 0 0]/\Below w.heap.size w W):=zH ⟨k1W,kr,hbW⟩;obtain⟨wz,hwz⟩:∃z,W.heap.size=z:=⟨_,rfl⟩
 have hzw:w.heap.size<=wz:=by have:=hbW.size;omega
 have HKW:Hid (∀wr,Below W.heap.size W wr->Rd wr wr.heap.size Ak (aI ks)):=zH fun wr hB=>by rw[<-Ue.out.2.1];exact(BN.out.oldR hbW).oldR hB
 have hkl:(aI ks).length=nk:=by unfold aI;rw[List.length_map];exact Ue.out.2.2
 have Oo:=zH hkl;clear k1 hb1 hw1 kr hb2 hw2 hsz1 hbW k1W hg1 hkl;refine cZ 7 (fun k=>k==6) (by kernel_rfl) (fun qk=>(Tq g1 bg nk ck wz ks Ak W.heap.size).getD qk .any) (by kernel_rfl) ?_ ?_
 ·refine aj.cons rfl [] [1] rfl rfl (by kernel_rfl) (by kernel_rfl) (fun qK qa wr hB qO qF hK=>?_) ?_
  ·have e1:qa.tmps[1]? =some (.pointer (some ⟨g1,0,none⟩)):=qO.1.trans rfl;clear qO qF;go_simp;exact hK _ _ zR rfl
  refine aj.cons rfl [0] [] rfl rfl (by kernel_rfl) (by kernel_rfl) (fun qK qa wr hB qO qF hK=>?_) ?_
  ·have e13:=aH qF.1 rfl rfl;clear qO qF;have hq0:=zE hB q0;go_simp;exact hK _ _ zR rfl
  refine aj.cons rfl [] [1] rfl rfl (by kernel_rfl) (by kernel_rfl) (fun qK qa wr hB qO qF hK=>?_) ?_
  ·have e1:qa.tmps[1]? =some (.pointer (some ⟨g1,0,none⟩)):=qO.1.trans rfl;clear qO qF;go_simp;exact hK _ _ zR rfl
  refine aj.cons rfl [2] [] rfl rfl (by kernel_rfl) (by kernel_rfl) (fun qK qa wr hB qO qF hK=>?_) ?_
  ·have e15:=aH qF.1 rfl rfl;clear qO qF;have hq1:=zE hB q1;go_simp;exact hK _ _ zR rfl
  refine aj.cons rfl [3] [] rfl rfl (by kernel_rfl) (by kernel_rfl) (fun qK qa wr hB qO qF hK=>?_) ?_
  ·have e16:=aH qF.1 rfl rfl;clear qO qF;have hrd:=HKW.out wr hB;refine eF (.const (.slice none 0 0)) (.tmp 16) 22 rfl wz 3 iT _ 1 8 Try.underlying22 hT hT0 hT1 hT2 rfl (by decide) (.slice none 0 0) 0 [] rfl (World.ownsRow_nil _ _ _ _) wr.heap.size Ak nk ck (aI ks) (bK e16) hrd (by rw[Oo.out,Nat.mul_one]) (by intro u hu;unfold aI at hu;obtain⟨x,_,rfl⟩:=List.mem_map.1 hu;rfl) (by unfold maxLen;omega) (by omega) (by have:=hB.size;omega) ?_;intro A9 c9 w9 bD jO _;have Xr:w9.ownsRow wz 3 1 (.slice A9 nk c9) nk (aI ks):=by simpa using bD
   have dZ:Below wr.heap.size wr w9:=⟨jO.os,jO.tape,jO.output,jO.size,fun q hq=>jO.block q hq (by simp[Value.ownBlock])⟩
   rw[Nat.zero_add];exact hK _ _ dZ ⟨A9,c9,rfl,Xr⟩
  refine aj.cons rfl [1,4] [] rfl rfl (by kernel_rfl) (by kernel_rfl) (fun qK qa wr hB qO qF hK=>?_) ?_
  ·have e14:=aH qF.1 rfl rfl;obtain⟨u17,e17,r4⟩:=qF.2.1;obtain⟨Aq,cq,hq4,hq4o⟩:=r4;subst hq4;have e17:qa.tmps[17]? =some (.slice Aq nk cq):=e17;clear qO qF;go_simp;exact hK _ _ zR ⟨Aq,cq,rfl,hq4o⟩
  refine aj.fresh rfl [] [] rfl rfl (by kernel_rfl) (by kernel_rfl) (fun qK qa wr hB qO qF hK=>?_) ?_
  ·clear qO qF;go_simp;exact hK _ _ (zR.alloc zL _) ⟨_,rfl,hB.size,Bk.new _ _ _⟩ ⟨_,rfl,by simp,by simp⟩
  exact aj.nil
 intro vals wr hl hB hR hS
 match vals,hl with
 |[z13,z14,z15,YX,z17,z18,z4],_=>
 have r5:(fun v w=>∃(A:Option Addr) (c:Nat),v=.agg #[.int .i64 (bg:Nat),.slice A nk c,.slice none 0 0]/\w.ownsRow wz 3 1 (.slice A nk c) nk (aI ks)) z18 wr:=hR 5 _ rfl;obtain⟨g4,r6,n4,k4⟩:=(show∃g,z4=.pointer (some ⟨g,0,none⟩)/\W.heap.size<=g/\Bk wr g 34 #[.int .i64 0,.slice none 0 0,.slice none 0 0]from hR 6 _ rfl)
 subst r6;clear hS;clear hR;simp only[List.take_succ_cons,List.take_zero,List.drop_succ_cons,List.drop_zero,List.toList_toArray,List.cons_append,List.nil_append,aN,Act.put,List.setIfInBounds_toArray,List.set_cons_zero,List.set_cons_succ];obtain⟨Aq,cq,hq5,Tt⟩:=r5;subst hq5;have Xt:=Tt;clear q0 q1;go_upto_region 2 with(first|(refine ae jU rfl _ _ rfl rfl [.int .i64 bg,.slice Aq nk cq,.slice none 0 0] rfl k4 rfl rfl rfl ?_;intro w3 p3))
 obtain⟨ga,hga⟩:∃z,g4=z:=⟨_,rfl⟩
 subst hga;obtain⟨B1,hB1⟩:∃z,w3.heap.size=z:=⟨_,rfl⟩
 have hb3:Below W.heap.size W w3:=p3.below _ _ hB n4;have hsz3:=p3.size;have hk4l:=k4.lt;have Xu:g4<B1:=by omega
 have Xv:gr<B1:=by have:=HW0.out.2.1.lt;have:=hb3.size;omega
 have hg14:g1<g4:=by have:=HW0.out.1.lt;omega
 have hgrg:gr≠g4:=by have:=HW0.out.2.1.lt;omega
 have hgaw:w.heap.size<=g4:=by have:=HW0.out.2.2.size;omega
 have hwB:w.heap.size<=B1:=by omega
 have hkv3:w3.ownsRow w.heap.size 3 1 (.slice Aq nk cq) ks.length (aI ks):=by
  rw[Ue.out.2.2];exact dF (Xt.kept p3.grown (.inr fun e=>aF Xt k4 (by decide) e.symm)) hzw
 have mX:Hid (tV B1 D g4 gr bg (.slice Aq nk cq) ks none 0 0 [] none 0 0 [] ns0 w w3/\Bk w3 g1 25 #[.int .i64 bg,.slice Ak nk ck,.slice Xq NB cb0]):=zH
  ⟨⟨p3.bk,HW0.out.2.1.old hb3,hkv3,World.ownsRow_nil _ _ _ _,World.ownsRow_nil _ _ _ _,fun b hb=>absurd hb (by simp),DZ _ _ _,fun st hs=>absurd hs (by simp),HW0.out.2.2.trans (hb3.mono HW0.out.2.2.size),by omega⟩,HW0.out.1.old hb3⟩
 have q2:w3.cell? ⟨g1,2,none⟩=some (.slice Xq NB cb0):=mX.out.2.cell 2;have hg1l:g1<w3.heap.size:=mX.out.2.lt;have hg1B:g1<B1:=by omega
 have H0:Hid ((match uU (t.branches.drop 0) []with|none=>(uX,(4:Int))|some dK=>(⟨bg,ks,dK⟩,0))=(AT,ER)):=zH (by
  rw[List.drop_zero,<-aK.out];unfold iL;rw[Ue.out.1,Ue.out.2.1]
  rfl)
 obtain⟨iBar,hBa,hBa0,hBa1,hBa2⟩:=info_parts Tn;obtain⟨iSt,hSt,hSt0,hSt1,hSt2⟩:=info_parts PN;obtain⟨iEn,hEn,hEn0,hEn1,hEn2⟩:=info_parts JM;clear Tt Xt p3 hB1 hb3 hsz3 hk4l hkv3 hB n4 k4 HW0 hwz hzw HKW Oo aK BN hg1l;go_wp2_with fail
 clear q2
 go_loopw[22] (fun i wr=>∃(k ns cs:Nat) (As:Option Addr) (dK:List pz),k<=NB/\i=.int .i64 k/\ns<=32/\Hid (dK.length=ns/\(match uU (t.branches.drop k) (dK.map (rP D))with|none=>(uX,(4:Int))|some dK=>(⟨bg,ks,dK⟩,0))=(AT,ER))/\Hid (tV B1 D g4 gr bg (.slice Aq nk cq) ks As ns cs dK none 0 0 [] ns0 w wr/\Bk wr g1 25 #[.int .i64 bg,.slice Ak nk ck,.slice Xq NB cb0])) (fun i _=>NB-(intOf i).toNat)
 case atStart=>exact⟨0,0,0,none,[],Nat.zero_le _,rfl,Nat.zero_le _,zH ⟨rfl,H0.out⟩,mX⟩
 case round=>
  clear H0 mX;obtain⟨k,ns,cs,As,dK,hk,rfl,hns,HR,HV⟩:=hrel;obtain⟨W,rfl⟩:∃W:World,W=wr:=⟨_,rfl⟩
  by_cases hlt:k<NB
  ·as_aux_lemma=>
   have hkl:k<bs.length:=by rw[BR.out];exact hlt
   obtain⟨g,o,rfl,hg,hc⟩:=QZ.out.elem (n:=3) oH (by omega) hkl;have hr:=HR.out.2
   have htk:t.branches.drop k=lU D bs[k]::t.branches.drop (k+1):=by
    rw[<-HT.out,List.drop_eq_getElem_cons (by simpa using hkl)];simp
   rw[htk]at hr;have hmem:=List.getElem_mem hkl;obtain⟨Ap,cp,hpv,Tu⟩:=HP.out.prt _ hmem;have hpl:=HP.out.plen _ hmem;have IU:=HP.out.Bo _ hmem;obtain⟨⟨id,win,pv,ps⟩,hb⟩:∃z,bs[k]=z:=⟨_,rfl⟩
   rw[hb]at hc hr hpv Tu hpl IU;simp only at hpv Tu hpl IU;subst hpv;obtain⟨np,Yc⟩:∃z,ps.length=z:=⟨_,rfl⟩
   have hcc:∀(j:Nat) (u:Value),(fB.mk id win (.slice Ap ps.length cp) ps).cells[j]? =some u->W.cell? ⟨g,o+k*3+j,none⟩=some u:=fun j u hu=>(aU HV.out.1.bel g _ hg).trans (hc j u hu)
   have r0:W.cell? ⟨g,o+k*3,none⟩=some (.int .i64 id):=hcc 0 _ rfl;have r1:W.cell? ⟨g,o+k*3+1,none⟩=some (.int .i64 win):=hcc 1 _ rfl;have r2:W.cell? ⟨g,o+k*3+2,none⟩=some (.slice Ap np cp):=by rw[<-Yc];exact hcc 2 _ rfl
   have KQ:=zH (And.intro Tu (And.intro IU Yc));have hnp44:np<=1000000:=by omega
   have hr2:(match uU (⟨id,win,ps.map (partT D)⟩::t.branches.drop (k+1)) (dK.map (rP D))with|none=>(uX,(4:Int))|some dK=>(⟨bg,ks,dK⟩,0))=(AT,ER):=hr;have HR2:=zH hr2;have G6:=zH HR.out.1;clear hcc hc hr htk Tu hpl IU hb Yc hg hmem hr2 HR;go_upto_region 5 with(first|(refine ae Gu rfl _ _ rfl rfl [.int .i64 id,.int .i64 win,.slice Ap np cp] rfl (Bk.new W _ _) rfl rfl rfl ?_;intro w4 p4;go_frame))
   have hb4:Below W.heap.size W w4:=p4.below _ _ (zR.alloc zL _) zL;obtain⟨gb,hgb⟩:∃z,W.heap.size=z:=⟨_,rfl⟩
   have hkb:=p4.bk;rw[hgb]at hkb⊢;have hgbB:B1<=gb:=by have:=HV.out.1.sz;omega
   have gZ:Hid (tV B1 D g4 gr bg (.slice Aq nk cq) ks As ns cs dK none 0 0 [] ns0 w w4/\Bk w4 g1 25 #[.int .i64 bg,.slice Ak nk ck,.slice (some ⟨g,o,none⟩) NB cb0]/\Bk w4 gb 28 #[.int .i64 id,.int .i64 win,.slice Ap np cp]):=zH ⟨HV.out.1.old hb4,HV.out.2.old hb4,hkb⟩;have b2:w4.cell? ⟨gb,2,none⟩=some (.slice Ap np cp):=hkb.cell 2;clear r0 r1 r2 p4 hb4 hkb hgb HV
   have HQ0:Hid ((match(match mM win ((ps.map (partT D)).drop 0) ⟨-1,[],[],dK.map (rP D)⟩with|none=>none|some y=>uU (t.branches.drop (k+1)) (Gt id y))with|none=>(uX,(4:Int))|some dK=>(⟨bg,ks,dK⟩,0))=(AT,ER)):=zH (by
    rw[List.drop_zero,<-HR2.out]
    rfl)
   have HQ1:Hid (xG bg ks (t.branches.drop (k+1)) id (mM win ((ps.map (partT D)).drop 0) ⟨-1,[],[],dK.map (rP D)⟩)=(AT,ER)):=HQ0;obtain⟨Yh,IC⟩:∃z,t.branches.drop (k+1)=z:=⟨_,rfl⟩
   have HRST:=zH IC;rw[IC]at HQ1;clear HQ0 HR2 IC;go_upto_region 8 with fail
   go_wp2_with fail
   clear b2
   go_loopw[7,8,9,29] (fun pv bv lv i wr=>∃(j:Nat) (pa:Int) (As:Option Addr) (ns cs:Nat) (dK:List pz) (Ab:Option Addr) (nb cb:Nat) (bars:List nO) (LA:Option Addr) (ln lc:Nat) (tH:List ax),j<=np/\nb<=j/\ns<=32/\pv=.int .i64 pa/\bv=.slice Ab nb cb/\lv=.slice LA ln lc/\i=.int .i64 j/\
    Hid (bars.length=nb/\dK.length=ns/\tH.length=ln/\Xp pa ns dK/\xG bg ks Yh id (mM win ((ps.map (partT D)).drop j) ⟨pa,bars.map (barT D),tH.map (bV D),dK.map (rP D)⟩)=(AT,ER))/\
    Hid (tV B1 D g4 gr bg (.slice Aq nk cq) ks As ns cs dK Ab nb cb bars ⟨LA,lc,tH⟩ w wr/\Bk wr g1 25 #[.int .i64 bg,.slice Ak nk ck,.slice (some ⟨g,o,none⟩) NB cb0]/\Bk wr gb 28 #[.int .i64 id,.int .i64 win,.slice Ap np cp])) (fun _ _ _ i _=>np-(intOf i).toNat)
   case atStart=>exact⟨0,-1,As,ns,cs,dK,none,0,0,[],none,0,0,[],Nat.zero_le _,Nat.le_refl _,hns,rfl,rfl,rfl,rfl,zH ⟨rfl,G6.out,rfl,.inl rfl,HQ1.out⟩,gZ⟩
   case round=>
    clear HQ1 gZ G6 hns;obtain⟨j,pa,As,ns,cs,dK,Ab,nb,cb,bars,LA,ln,lc,tH,hj,hnb,hns,rfl,rfl,rfl,rfl,HR,HV⟩:=hrel;obtain⟨wo,rfl⟩:∃wo:World,wo=wr:=⟨_,rfl⟩
    by_cases hjl:j<np
    ·as_aux_lemma=>
     have hkp:j<ps.length:=by rw[KQ.out.2.2];exact hjl
     obtain⟨gp,op,rfl,yG,hcp⟩:=KQ.out.1.elem (n:=4) jR (by omega) hkp;have hr:=HR.out.2.2.2.2;rw[List.drop_eq_getElem_cons (by simpa using hkp)]at hr;rw[List.getElem_map]at hr;have hnd:=KQ.out.2.1 _ (List.getElem_mem hkp);obtain⟨⟨fo,ty,gv,cv,gs,cs2⟩,hp⟩:∃z,ps[j]=z:=⟨_,rfl⟩
     rw[hp]at hcp hr hnd;obtain⟨Ag,cg,hgv,-⟩:=hnd.g.ex;obtain⟨Ac,cc,hcv,-⟩:=hnd.c.ex;simp only at hgv hcv;subst hgv;subst hcv;obtain⟨ng,Wp⟩:∃z,gs.length=z:=⟨_,rfl⟩
     obtain⟨nc,hnc⟩:∃z,cs2.length=z:=⟨_,rfl⟩
     have PV:∀(q:Nat) (u:Value),(bW.mk fo ty (.slice Ag gs.length cg) (.slice Ac cs2.length cc) gs cs2).cells[q]? =some u->wo.cell? ⟨gp,op+j*4+q,none⟩=some u:=fun q u hu=>(aU HV.out.1.bel gp _ yG).trans (hcp q u hu)
     have r0:wo.cell? ⟨gp,op+j*4,none⟩=some (.int .i64 fo):=PV 0 _ rfl;have r1:wo.cell? ⟨gp,op+j*4+1,none⟩=some (.int .i64 ty):=PV 1 _ rfl;have r2:wo.cell? ⟨gp,op+j*4+2,none⟩=some (.slice Ag ng cg):=by rw[<-Wp];exact PV 2 _ rfl
     have r3:wo.cell? ⟨gp,op+j*4+3,none⟩=some (.slice Ac nc cc):=by rw[<-hnc];exact PV 3 _ rfl
     have HTG:Hid (∀W',Below w.heap.size w W'->Calls Try.prog 18 #[.slice Ag ng cg] W' fun e w'=>∃x:oL,e=.returned x.val/\Bz D W'.heap.size (gs.map (bV D)) x w'/\Below W'.heap.size W' w'):=zH fun W' hW=>by
      have h1:=UM (hnd.g.old hW);simp only[Wp]at h1;exact h1
     have HTC:Hid (∀W',Below w.heap.size w W'->Calls Try.prog 18 #[.slice Ac nc cc] W' fun e w'=>∃x:oL,e=.returned x.val/\Bz D W'.heap.size (cs2.map (bV D)) x w'/\Below W'.heap.size W' w'):=zH fun W' hW=>by
      have h1:=UM (hnd.c.old hW);simp only[hnc]at h1;exact h1
     have hr2:xG bg ks Yh id (match qx win ⟨fo,ty,gs.map (bV D),cs2.map (bV D)⟩ ⟨pa,bars.map (barT D),tH.map (bV D),dK.map (rP D)⟩with|none=>none|some y=>mM win ((ps.map (partT D)).drop (j+1)) y)=(AT,ER):=hr;have HR2:=zH hr2;have vC:=zH (And.intro HR.out.1 (And.intro HR.out.2.1 (And.intro HR.out.2.2.1 HR.out.2.2.2.1)));clear PV hcp hr hnd hp Wp hnc yG hr2 HR;go_upto_region 11 with(first|(refine ae Lt rfl _ _ rfl rfl [.int .i64 fo,.int .i64 ty,.slice Ag ng cg,.slice Ac nc cc] rfl (Bk.new wo _ _) rfl rfl rfl ?_;intro w5 p5;go_frame))
     have hb5:Below wo.heap.size wo w5:=p5.below _ _ (zR.alloc zL _) zL;obtain⟨gq,hgq⟩:∃z,wo.heap.size=z:=⟨_,rfl⟩
     have hkq:=p5.bk;rw[hgq]at hkq⊢;have HV5:Hid (tV B1 D g4 gr bg (.slice Aq nk cq) ks As ns cs dK Ab nb cb bars ⟨LA,lc,tH⟩ w w5/\Bk w5 g1 25 #[.int .i64 bg,.slice Ak nk ck,.slice (some ⟨g,o,none⟩) NB cb0]/\Bk w5 gb 28 #[.int .i64 id,.int .i64 win,.slice (some ⟨gp,op,none⟩) np cp]/\Bk w5 gq 31 #[.int .i64 fo,.int .i64 ty,.slice Ag ng cg,.slice Ac nc cc]):=zH ⟨HV.out.1.old hb5,HV.out.2.1.old hb5,HV.out.2.2.old hb5,hkq⟩;have p0:w5.cell? ⟨gq,0,none⟩=some (.int .i64 fo):=hkq.cell 0;clear r0 r1 r2 r3 p5 hb5 hkq hgq HV;obtain⟨W,hW⟩:∃W:World,w5=W:=⟨_,rfl⟩
     subst hW;obtain⟨wz,hwz⟩:∃z,w5.heap.size=z:=⟨_,rfl⟩
     by_cases h3:fo=3
     ·as_aux_lemma=>
      have e3:((fo:Int)==3)=true:=by rw[beq_iff_eq];omega
      have hr:=HR2.out
      have hbp:qx win ⟨fo,ty,gs.map (bV D),cs2.map (bV D)⟩ ⟨pa,bars.map (barT D),tH.map (bV D),dK.map (rP D)⟩=some ⟨pa,bars.map (barT D)++[⟨ty,gs.map (bV D)⟩],tH.map (bV D),dK.map (rP D)⟩:=by
       unfold qx;rw[if_pos h3]
      rw[hbp]at hr;have HR3:=zH hr;clear hr hbp h3 HR2 HTC;obtain⟨W,hW⟩:∃W:World,w5=W:=⟨_,rfl⟩
      rw[hW]at HV5 p0 hwz⊢;clear hW;have p1:W.cell? ⟨gq,1,none⟩=some (.int .i64 ty):=HV5.out.2.2.2.cell 1;have p2:W.cell? ⟨gq,2,none⟩=some (.slice Ag ng cg):=HV5.out.2.2.2.cell 2;have Xw:Hid (∀wr,Below W.heap.size W wr->Calls Try.prog 18 #[.slice Ag ng cg] wr fun e w'=>∃x:oL,e=.returned x.val/\Bz D wr.heap.size (gs.map (bV D)) x w'/\Below wr.heap.size wr w'):=zH fun wr hB=>HTG.out wr (HV5.out.1.bel.trans (hB.mono HV5.out.1.bel.size))
      obtain⟨ts,hts⟩:∃z,gs.map (bV D)=z:=⟨_,rfl⟩
      rw[hts]at Xw HR3;clear HTG hts;go_upto_region 12 with fail
      refine cZ 8 (fun k=>false) (by kernel_rfl) (fun qk=>(PU gq D wz nb cb ng cg ty Ab Ag ts).getD qk .any) (by kernel_rfl) ?_ ?_
      ·refine aj.TM rfl [] [8] rfl rfl (by kernel_rfl) (by kernel_rfl) (fun qK qa wr hB qO qF hK=>?_) ?_
       ·have e8:qa.tmps[8]? =some (.slice Ab nb cb):=qO.1.trans rfl;clear qO qF;go_simp;exact hK _ _ zR rfl
       refine aj.cons rfl [] [11] rfl rfl (by kernel_rfl) (by kernel_rfl) (fun qK qa wr hB qO qF hK=>?_) ?_
       ·have e11:qa.tmps[11]? =some (.pointer (some ⟨gq,0,none⟩)):=qO.1.trans rfl;clear qO qF;go_simp;exact hK _ _ zR rfl
       refine aj.cons rfl [1] [] rfl rfl (by kernel_rfl) (by kernel_rfl) (fun qK qa wr hB qO qF hK=>?_) ?_
       ·have e37:=aH qF.1 rfl rfl;clear qO qF;have hp1:=zE hB p1;go_simp;exact hK _ _ zR rfl
       refine aj.cons rfl [] [11] rfl rfl (by kernel_rfl) (by kernel_rfl) (fun qK qa wr hB qO qF hK=>?_) ?_
       ·have e11:qa.tmps[11]? =some (.pointer (some ⟨gq,0,none⟩)):=qO.1.trans rfl;clear qO qF;go_simp;exact hK _ _ zR rfl
       refine aj.cons rfl [3] [] rfl rfl (by kernel_rfl) (by kernel_rfl) (fun qK qa wr hB qO qF hK=>?_) ?_
       ·have e39:=aH qF.1 rfl rfl;clear qO qF;have hp2:=zE hB p2;go_simp;exact hK _ _ zR rfl
       refine aj.cons rfl [4] [] rfl rfl (by kernel_rfl) (by kernel_rfl) (fun qK qa wr hB qO qF hK=>?_) ?_
       ·have e40:=aH qF.1 rfl rfl;clear qO qF;go_simp
        go_at_call 18
        refine(Xw.out wr hB).mono ?_;rintro r w9 ⟨x9,rfl,Xx,dZ⟩;exact hK _ _ dZ ⟨x9,rfl,Xx.mono (by have:=hB.size;omega)⟩
       refine aj.cons rfl [2,5] [] rfl rfl (by kernel_rfl) (by kernel_rfl) (fun qK qa wr hB qO qF hK=>?_) ?_
       ·have e38:=aH qF.1 rfl rfl;obtain⟨u41,e41,r5⟩:=qF.2.1;obtain⟨x,hq5,Tt⟩:=r5;subst hq5;have e41:qa.tmps[41]? =some (.slice x.A x.ns.length x.c):=e41;clear qO qF;go_simp;exact hK _ _ zR ⟨x,rfl,Tt⟩
       refine aj.cons rfl [6] [] rfl rfl (by kernel_rfl) (by kernel_rfl) (fun qK qa wr hB qO qF hK=>?_) ?_
       ·obtain⟨u42,e42,r6⟩:=qF.1;obtain⟨x,hq6,hq6o⟩:=r6;subst hq6;have e42:qa.tmps[42]? =some (.agg #[.int .i64 ty,.slice x.A x.ns.length x.c]):=e42;clear qO qF;go_simp;exact hK _ _ (zR.alloc zL _) ⟨_,x,rfl,Bk.new _ _ _,hq6o.old (zR.alloc zL _)⟩
       exact aj.nil
      intro vals wr hl hB hR hS
      match vals,hl with
      |[z36,z37,z38,z39,z40,z41,z42,z43],_=>
      have r0:z36=.slice Ab nb cb:=hR 0 _ rfl;subst r0;have r7:(fun v w=>∃(g:Nat) (x:oL),v=.slice (some ⟨g,0,none⟩) 1 1/\Bk w g 52 #[.int .i64 ty,x.val]/\Bz D wz ts x w) z43 wr:=hR 7 _ rfl;clear hS;clear hR;simp only[List.take_succ_cons,List.take_zero,List.drop_succ_cons,List.drop_zero,List.toList_toArray,List.cons_append,List.nil_append,aN,Act.put,List.setIfInBounds_toArray,List.set_cons_zero,List.set_cons_succ];obtain⟨g7,x,rfl,k7,htw⟩:=r7;have hvB:=HV5.out.1.old hB;have PW:=hvB.bar;have kK:B1<=wr.heap.size:=hvB.sz;have PX:B1<=wz:=by have:=HV5.out.1.sz;omega
      have HX:=zH (And.intro hvB (And.intro htw (And.intro (HV5.out.2.1.old hB) (HV5.out.2.2.1.old hB))));have I5:=Rd.bk k7 (Nat.lt_succ_self _);clear hvB htw hB p0 p1 p2 Xw;unfold oL.val at I5;go_wp2_with (first|at_builtin;(refine az (by rfl) _ _ 41 (by rfl) B1 52 iBar _ 2 32 Try.underlying41 hBa hBa0 hBa1 hBa2 rfl (by decide) (.slice Ab nb cb) nb _ (by rfl) PW (g7+1) (some ⟨g7,0,none⟩) 1 1 _ (by rfl) I5 (by rfl) ?c2 ?c3 ?c4 kK ?_))
      case c2=>first|exact⟨rfl,rfl⟩|(intro u hu;simp at hu;rcases hu with rfl|rfl<;>rfl)
      case c3=>unfold maxLen;omega
      case c4=>omega
      intro A6 c6 w6 hown6 iy PY;have hbx:x.ok (kM B1 (.slice As ns cs) (.slice Ab nb cb)) D wr:=HX.out.2.1.ok PX (fun k hk=>by rw[<-hwz];exact HV5.out.1.rC.1 k hk) (fun k hk=>by rw[<-hwz];exact HV5.out.1.rC.2 k hk);have hne:∀{e:TypeId} {gz:Nat} {czs:Array Value},Bk wr gz e czs->52≠e->Bk w6 gz e czs:=fun hk he=>hk.grown iy (aF PW hk he)
      have dS:Hid (tV B1 D g4 gr bg (.slice Aq nk cq) ks As ns cs dK A6 (nb+1) c6 (bars++[⟨ty,x⟩]) ⟨LA,lc,tH⟩ w w6/\Bk w6 g1 25 #[.int .i64 bg,.slice Ak nk ck,.slice (some ⟨g,o,none⟩) NB cb0]/\Bk w6 gb 28 #[.int .i64 id,.int .i64 win,.slice (some ⟨gp,op,none⟩) np cp]):=zH ⟨HX.out.1.bar1 Xu Xv hwB (b:=⟨ty,x⟩) hbx hown6 iy PY,hne HX.out.2.2.1 (by decide),hne HX.out.2.2.2 (by decide)⟩
      have Xm:Hid ((bars++[(⟨ty,x⟩:nO)]).length=nb+1/\dK.length=ns/\tH.length=ln/\Xp pa ns dK/\xG bg ks Yh id (mM win ((ps.map (partT D)).drop (j+1)) ⟨pa,(bars++[(⟨ty,x⟩:nO)]).map (barT D),tH.map (bV D),dK.map (rP D)⟩)=(AT,ER)):=zH ⟨by rw[List.length_append,vC.out.1];rfl,vC.out.2.1,vC.out.2.2.1,vC.out.2.2.2,by
       rw[List.map_append,List.map_cons,List.map_nil];have:barT D ⟨ty,x⟩=⟨ty,ts⟩:=by unfold barT;rw[HX.out.2.1.tr]
       rw[this]
       exact HR3.out⟩
      clear hown6 iy PY hbx HX PW kK I5 k7 HR3 vC HV5 hne;go_wp2
      go_roundw
      case rel=>exact⟨j+1,pa,As,ns,cs,dK,A6,nb+1,c6,bars++[⟨ty,x⟩],LA,ln,lc,tH,by omega,by omega,hns,rfl,rfl,rfl,by go_num,Xm,dS⟩
      case measure=>simp[intOf];omega
     ·as_aux_lemma=>
      have e3:((fo:Int)==3)=false:=by rw[beq_eq_false_iff_ne];omega
      have a2:w5.cell? ⟨g4,2,none⟩=some (.slice As ns cs):=HV5.out.1.ka.cell 2
      by_cases h32:ns=32
      ·as_aux_lemma=>
       have eI:((ns:Int)==32)=true:=by rw[beq_iff_eq];omega
       have hr:=HR2.out
       have hbp:qx win ⟨fo,ty,gs.map (bV D),cs2.map (bV D)⟩ ⟨pa,bars.map (barT D),tH.map (bV D),dK.map (rP D)⟩=none:=by
        unfold qx;rw[if_neg h3,if_pos (by show(dK.map (rP D)).length=32;rw[List.length_map,vC.out.2.1];exact h32)]
       rw[hbp]at hr;have hr:(uX,(4:Int))=(AT,ER):=hr;injection hr with h1 h2
       subst h1;subst h2;have kr:=HV5.out.1.kr;clear hbp h3 HR2 HTC HTG h32;go_wp2_with (first|(refine ae jU rfl _ _ rfl rfl [.int .i64 0,.slice none 0 0,.slice none 0 0] rfl kr rfl rfl rfl ?_;intro w9 p9))
       obtain⟨u0,u1,u2⟩:=zc3 p9.bk;have HF:=zH (p9.below _ _ HV5.out.1.bel KE);clear p9 kr;refine bodyPost_ret (v:=.tuple #[.agg #[.int .i64 0,.slice none 0 0,.slice none 0 0],.int .i64 4]) (by simp[results,Try.results6,go_sem,u0,u1,u2]) rfl ?_;exact⟨_,rfl,su.zero _ _ _,HF.out⟩
      ·as_aux_lemma=>
       have eI:((ns:Int)==32)=false:=by rw[beq_eq_false_iff_ne];omega
       obtain⟨mb,hmb⟩:∃z,(fo==2)=z:=⟨_,rfl⟩
       have JY:((fo:Int)==2)=mb:=by rw[<-hmb];exact Di fo 2
       have hr:=HR2.out
       have hbp:qx win ⟨fo,ty,gs.map (bV D),cs2.map (bV D)⟩ ⟨pa,bars.map (barT D),tH.map (bV D),dK.map (rP D)⟩=some ⟨ns,[],cs2.map (bV D),dK.map (rP D)++[⟨pa,ty,mb,win,bars.map (barT D),tH.map (bV D),gs.map (bV D),[]⟩]⟩:=by
        unfold qx;rw[if_neg h3,if_neg (by show¬(dK.map (rP D)).length=32;rw[List.length_map,vC.out.2.1];exact h32)];simp only[List.length_map,vC.out.2.1,hmb]
       rw[hbp]at hr;have HR3:=zH hr;clear hr hbp h3 HR2;obtain⟨W,hW⟩:∃W:World,w5=W:=⟨_,rfl⟩
       rw[hW]at HV5 p0 a2 hwz⊢;clear hW;have p1:W.cell? ⟨gq,1,none⟩=some (.int .i64 ty):=HV5.out.2.2.2.cell 1;have p2:W.cell? ⟨gq,2,none⟩=some (.slice Ag ng cg):=HV5.out.2.2.2.cell 2;have b1:W.cell? ⟨gb,1,none⟩=some (.int .i64 win):=HV5.out.2.2.1.cell 1;have Xw:Hid (∀wr,Below W.heap.size W wr->Calls Try.prog 18 #[.slice Ag ng cg] wr fun e w'=>∃x:oL,e=.returned x.val/\Bz D wr.heap.size (gs.map (bV D)) x w'/\Below wr.heap.size wr w'):=zH fun wr hB=>HTG.out wr (HV5.out.1.bel.trans (hB.mono HV5.out.1.bel.size))
       obtain⟨ts,hts⟩:∃z,gs.map (bV D)=z:=⟨_,rfl⟩
       rw[hts]at Xw HR3;clear HTG hts hmb;go_upto_region 15 with fail
       clear e3 eI;refine cZ 17 (fun k=>false) (by kernel_rfl) (fun qk=>(PQ g4 gq gb D wz ns cs nb cb ln lc ng cg fo pa ty win mb As Ab LA Ag ts).getD qk .any) (by kernel_rfl) ?_ ?_
       ·refine aj.cons rfl [] [4] rfl rfl (by kernel_rfl) (by kernel_rfl) (fun qK qa wr hB qO qF hK=>?_) ?_
        ·have e4:qa.tmps[4]? =some (.pointer (some ⟨g4,0,none⟩)):=qO.1.trans rfl;clear qO qF;go_simp;exact hK _ _ zR rfl
        refine aj.cons rfl [0] [] rfl rfl (by kernel_rfl) (by kernel_rfl) (fun qK qa wr hB qO qF hK=>?_) ?_
        ·have e50:=aH qF.1 rfl rfl;clear qO qF;have ha2:=zE hB a2;go_simp;exact hK _ _ zR rfl
        refine aj.cons rfl [] [7] rfl rfl (by kernel_rfl) (by kernel_rfl) (fun qK qa wr hB qO qF hK=>?_) ?_
        ·have e7:qa.tmps[7]? =some (.int .i64 pa):=qO.1.trans rfl;clear qO qF;go_simp;exact hK _ _ zR rfl
        refine aj.cons rfl [] [11] rfl rfl (by kernel_rfl) (by kernel_rfl) (fun qK qa wr hB qO qF hK=>?_) ?_
        ·have e11:qa.tmps[11]? =some (.pointer (some ⟨gq,0,none⟩)):=qO.1.trans rfl;clear qO qF;go_simp;exact hK _ _ zR rfl
        refine aj.cons rfl [3] [] rfl rfl (by kernel_rfl) (by kernel_rfl) (fun qK qa wr hB qO qF hK=>?_) ?_
        ·have e53:=aH qF.1 rfl rfl;clear qO qF;have hp1:=zE hB p1;go_simp;exact hK _ _ zR rfl
        refine aj.cons rfl [] [11] rfl rfl (by kernel_rfl) (by kernel_rfl) (fun qK qa wr hB qO qF hK=>?_) ?_
        ·have e11:qa.tmps[11]? =some (.pointer (some ⟨gq,0,none⟩)):=qO.1.trans rfl;clear qO qF;go_simp;exact hK _ _ zR rfl
        refine aj.cons rfl [5] [] rfl rfl (by kernel_rfl) (by kernel_rfl) (fun qK qa wr hB qO qF hK=>?_) ?_
        ·have e55:=aH qF.1 rfl rfl;clear qO qF;have hp0:=zE hB p0;go_simp;exact hK _ _ zR rfl
        refine aj.cons rfl [6] [] rfl rfl (by kernel_rfl) (by kernel_rfl) (fun qK qa wr hB qO qF hK=>?_) ?_
        ·have e56:=aH qF.1 rfl rfl;clear qO qF;go_simp;refine hK _ _ zR ?_
         show(_:Value)=_
         first|rfl|rw[JY]|(simp[JY];done)
        refine aj.cons rfl [] [6] rfl rfl (by kernel_rfl) (by kernel_rfl) (fun qK qa wr hB qO qF hK=>?_) ?_
        ·have e6:qa.tmps[6]? =some (.pointer (some ⟨gb,0,none⟩)):=qO.1.trans rfl;clear qO qF;go_simp;exact hK _ _ zR rfl
        refine aj.cons rfl [8] [] rfl rfl (by kernel_rfl) (by kernel_rfl) (fun qK qa wr hB qO qF hK=>?_) ?_
        ·have e58:=aH qF.1 rfl rfl;clear qO qF;have hb1:=zE hB b1;go_simp;exact hK _ _ zR rfl
        refine aj.cons rfl [] [8] rfl rfl (by kernel_rfl) (by kernel_rfl) (fun qK qa wr hB qO qF hK=>?_) ?_
        ·have e8:qa.tmps[8]? =some (.slice Ab nb cb):=qO.1.trans rfl;clear qO qF;go_simp;exact hK _ _ zR rfl
        refine aj.cons rfl [] [9] rfl rfl (by kernel_rfl) (by kernel_rfl) (fun qK qa wr hB qO qF hK=>?_) ?_
        ·have e9:qa.tmps[9]? =some (.slice LA ln lc):=qO.1.trans rfl;clear qO qF;go_simp;exact hK _ _ zR rfl
        refine aj.cons rfl [] [11] rfl rfl (by kernel_rfl) (by kernel_rfl) (fun qK qa wr hB qO qF hK=>?_) ?_
        ·have e11:qa.tmps[11]? =some (.pointer (some ⟨gq,0,none⟩)):=qO.1.trans rfl;clear qO qF;go_simp;exact hK _ _ zR rfl
        refine aj.cons rfl [12] [] rfl rfl (by kernel_rfl) (by kernel_rfl) (fun qK qa wr hB qO qF hK=>?_) ?_
        ·have e62:=aH qF.1 rfl rfl;clear qO qF;have hp2:=zE hB p2;go_simp;exact hK _ _ zR rfl
        refine aj.cons rfl [13] [] rfl rfl (by kernel_rfl) (by kernel_rfl) (fun qK qa wr hB qO qF hK=>?_) ?_
        ·have e63:=aH qF.1 rfl rfl;clear qO qF;go_simp
         go_at_call 18
         refine(Xw.out wr hB).mono ?_;rintro r w9 ⟨x9,rfl,Xx,dZ⟩;exact hK _ _ dZ ⟨x9,rfl,Xx.mono (by have:=hB.size;omega)⟩
        refine aj.cons rfl [2,4,7,9,10,11,14] [] rfl rfl (by kernel_rfl) (by kernel_rfl) (fun qK qa wr hB qO qF hK=>?_) ?_
        ·have e52:=aH qF.1 rfl rfl;have e54:=aH qF.2.1 rfl rfl;have e57:=aH qF.2.2.1 rfl rfl;have e59:=aH qF.2.2.2.1 rfl rfl;have e60:=aH qF.2.2.2.2.1 rfl rfl;have e61:=aH qF.2.2.2.2.2.1 rfl rfl;obtain⟨u64,e64,OG⟩:=qF.2.2.2.2.2.2.1;obtain⟨x,hq14,zAi⟩:=OG;subst hq14;have e64:qa.tmps[64]? =some (.slice x.A x.ns.length x.c):=e64;clear qO qF;refine Lu (.tmp 52) (.tmp 54) (.tmp 57) (.tmp 59) (.tmp 60) (.tmp 61) (.tmp 64) rfl (bK e52) (bK e54) (bK e57) (bK e59) (bK e60) (bK e61) (bK e64) ?_;exact hK _ _ zR ⟨x,rfl,zAi⟩
        refine aj.cons rfl [15] [] rfl rfl (by kernel_rfl) (by kernel_rfl) (fun qK qa wr hB qO qF hK=>?_) ?_
        ·obtain⟨u65,e65,ZY⟩:=qF.1;obtain⟨x,hq15,zAj⟩:=ZY;subst hq15;have e65:qa.tmps[65]? =some (.agg #[.int .i64 pa,.int .i64 ty,.bool mb,.int .i64 win,.slice Ab nb cb,.slice LA ln lc,.slice x.A x.ns.length x.c,.slice none 0 0]):=e65;clear qO qF;refine PO (.tmp 65) rfl (bK e65) ?_;exact hK _ _ (zR.alloc zL _) ⟨_,x,rfl,Bk.new _ _ _,zAj.old (zR.alloc zL _)⟩
        exact aj.nil
       intro vals wr hl hB hR hS
       match vals,hl with
       |[z50,z51,z52,z53,z54,z55,z56,z57,z58,z59,z60,z61,z62,z63,z64,z65,z66],_=>
       have r1:z51=.slice As ns cs:=hR 1 _ rfl;subst r1;have r16:(fun v w=>∃(g:Nat) (x:oL),v=.slice (some ⟨g,0,none⟩) 1 1/\Bk w g 44 #[.int .i64 pa,.int .i64 ty,.bool mb,.int .i64 win,.slice Ab nb cb,.slice LA ln lc,x.val,.slice none 0 0]/\Bz D wz ts x w) z66 wr:=hR 16 _ rfl;clear hS;clear hR;simp only[List.take_succ_cons,List.take_zero,List.drop_succ_cons,List.drop_zero,List.toList_toArray,List.cons_append,List.nil_append,aN,Act.put,List.setIfInBounds_toArray,List.set_cons_zero,List.set_cons_succ];obtain⟨g7,x,rfl,k7,htw⟩:=r16;have hvB:=HV5.out.1.old hB;have bz:=hvB.own;have kK:B1<=wr.heap.size:=hvB.sz;have PX:B1<=wz:=by have:=HV5.out.1.sz;omega
       have HX:=zH (And.intro hvB (And.intro htw (And.intro (HV5.out.2.1.old hB) (And.intro (HV5.out.2.2.1.old hB) (HV5.out.2.2.2.old hB)))));have I5:=Rd.bk k7 (Nat.lt_succ_self _);clear hvB htw hB p0 p1 p2 b1 a2 Xw;unfold oL.val at I5;go_wp2_with (first|at_builtin;(refine az (by rfl) _ _ 32 (by rfl) B1 44 iSt _ 8 128 Try.underlying32 hSt hSt0 hSt1 hSt2 rfl (by decide) (.slice As ns cs) ns _ (by rfl) bz (g7+1) (some ⟨g7,0,none⟩) 1 1 _ (by rfl) I5 (by rfl) ?c2 ?c3 ?c4 kK ?_))
       case c2=>first|exact⟨rfl,rfl,rfl,rfl,rfl,rfl,rfl,rfl⟩|(intro u hu;simp at hu;rcases hu with rfl|rfl|rfl|rfl|rfl|rfl|rfl|rfl<;>rfl)
       case c3=>unfold maxLen;omega
       case c4=>omega
       intro A6 c6 w6 hown6 iy PY;have hbx:x.ok (kM B1 (.slice As ns cs) (.slice Ab nb cb)) D wr:=HX.out.2.1.ok PX (fun k hk=>by rw[<-hwz];exact HV5.out.1.rC.1 k hk) (fun k hk=>by rw[<-hwz];exact HV5.out.1.rC.2 k hk);have hne:∀{e:TypeId} {gz:Nat} {czs:Array Value},Bk wr gz e czs->44≠e->Bk w6 gz e czs:=fun hk he=>hk.grown iy (aF bz hk he)
       have Xy:=hne HX.out.1.ka (by decide);have f6:=Xy.frozen 2;have c6':w6.cell? ⟨g4,2,none⟩=some (.slice As ns cs):=Xy.cell 2;have hv6:=HX.out.1.st1 Xu Xv hgrg hgaw hwB vC.out.1 (pa:=pa) (ty:=ty) (win:=win) (many:=mb) (gd:=x) hbx (A':=A6) (c':=c6) (by rw[<-vC.out.2.2.1]at hown6;exact hown6) iy PY;have a2n:(w6.setCell ⟨g4,2,none⟩ (.slice A6 (ns+1) c6)).cell? ⟨g4,2,none⟩=some (.slice A6 (ns+1) c6):=hv6.ka.cell 2;have g3n:(w6.setCell ⟨g4,2,none⟩ (.slice A6 (ns+1) c6)).cell? ⟨gq,3,none⟩=some (.slice Ac nc cc):=((hne HX.out.2.2.2.2 (by decide)).far (p:=⟨g4,2,none⟩) (by show gq≠g4;intro e;have h1:=HX.out.2.2.2.2;rw[e]at h1;exact absurd (uM h1 HX.out.1.ka) (by decide)) _).cell 3;have dS:Hid (tV B1 D g4 gr bg (.slice Aq nk cq) ks A6 (ns+1) c6 (dK++[⟨pa,ty,mb,win,Ab,cb,bars,⟨LA,lc,tH⟩,x,none,0,[]⟩]) none 0 0 [] ns0 w (w6.setCell ⟨g4,2,none⟩ (.slice A6 (ns+1) c6))/\Bk (w6.setCell ⟨g4,2,none⟩ (.slice A6 (ns+1) c6)) g1 25 #[.int .i64 bg,.slice Ak nk ck,.slice (some ⟨g,o,none⟩) NB cb0]/\Bk (w6.setCell ⟨g4,2,none⟩ (.slice A6 (ns+1) c6)) gb 28 #[.int .i64 id,.int .i64 win,.slice (some ⟨gp,op,none⟩) np cp]):=zH ⟨hv6,(hne HX.out.2.2.1 (by decide)).far (by show g1≠g4;omega) _,(hne HX.out.2.2.2.1 (by decide)).far (by show gb≠g4;omega) _⟩;have X7:Hid (UJ D x=ts):=zH HX.out.2.1.tr;clear hown6 iy PY hbx HX bz kK I5 k7 HV5 hne Xy hv6
       go_upto_region 17 with fail
       obtain⟨w7,hw7⟩:∃z,w6.setCell ⟨g4,2,none⟩ (.slice A6 (ns+1) c6)=z:=⟨_,rfl⟩
       rw[hw7]at dS a2n g3n⊢;clear hw7 f6 c6';have HTC7:=zH (HTC.out w7 dS.out.1.bel);clear HTC;go_wp2_with fail
       refine HTC7.out.mono ?_;rintro e w8 ⟨y,rfl,hty,hb8⟩;have hz7:=dS.out.1.sz;have Xz:y.ok (kM B1 (.slice A6 (ns+1) c6) (.slice none 0 0)) D w8:=hty.ok dS.out.1.sz (dS.out.1.rC.1) (dS.out.1.rC.2);obtain⟨⟨LA2,lc2,LD⟩,hy⟩:∃z,y=z:=⟨_,rfl⟩
       rw[hy]at Xz
       have hyt:LD.map (bV D)=cs2.map (bV D):=by
        have:=hty.tr;rw[hy]at this;exact this
       obtain⟨ln2,XA⟩:∃z,LD.length=z:=⟨_,rfl⟩
       have hyv:y.val=.slice LA2 ln2 lc2:=by rw[hy,<-XA];rfl
       rw[hyv];have qH:Hid (tV B1 D g4 gr bg (.slice Aq nk cq) ks A6 (ns+1) c6 (dK++[⟨pa,ty,mb,win,Ab,cb,bars,⟨LA,lc,tH⟩,x,none,0,[]⟩]) none 0 0 [] ⟨LA2,lc2,LD⟩ w w8/\Bk w8 g1 25 #[.int .i64 bg,.slice Ak nk ck,.slice (some ⟨g,o,none⟩) NB cb0]/\Bk w8 gb 28 #[.int .i64 id,.int .i64 win,.slice (some ⟨gp,op,none⟩) np cp]):=zH ⟨(dS.out.1.old hb8).lv1 Xz,dS.out.2.1.old hb8,dS.out.2.2.old hb8⟩
       have Xm:Hid (([]:List nO).length=0/\(dK++[(⟨pa,ty,mb,win,Ab,cb,bars,⟨LA,lc,tH⟩,x,none,0,[]⟩:pz)]).length=ns+1/\LD.length=ln2/\Xp (ns:Int) (ns+1) (dK++[⟨pa,ty,mb,win,Ab,cb,bars,⟨LA,lc,tH⟩,x,none,0,[]⟩])/\xG bg ks Yh id (mM win ((ps.map (partT D)).drop (j+1)) ⟨(ns:Int),([]:List nO).map (barT D),LD.map (bV D),(dK++[(⟨pa,ty,mb,win,Ab,cb,bars,⟨LA,lc,tH⟩,x,none,0,[]⟩:pz)]).map (rP D)⟩)=(AT,ER)):=zH
        ⟨rfl,by rw[List.length_append,vC.out.2.1];rfl,XA,.inr ⟨ns,rfl,by omega,_,by rw[List.getElem?_append_right (by rw[vC.out.2.1];exact Nat.le_refl _),vC.out.2.1,Nat.sub_self];rfl,rfl,rfl,rfl⟩,by
         rw[List.map_append,List.map_cons,List.map_nil,hyt]
         have h5:rP D ⟨pa,ty,mb,win,Ab,cb,bars,⟨LA,lc,tH⟩,x,none,0,[]⟩=⟨pa,ty,mb,win,bars.map (barT D),tH.map (bV D),ts,[]⟩:=by
          unfold rP;simp only[X7.out];rfl
         rw[h5]
         exact HR3.out⟩
       have hns2:ns+1<=32:=by omega
       clear Xz hyt hyv hy hty hb8 XA HTC7 a2n g3n HR3 vC X7 dS;go_wp2
       go_roundw
       case rel=>exact⟨j+1,(ns:Int),A6,ns+1,c6,dK++[⟨pa,ty,mb,win,Ab,cb,bars,⟨LA,lc,tH⟩,x,none,0,[]⟩],none,0,0,[],LA2,ln2,lc2,LD,by omega,by omega,hns2,rfl,rfl,rfl,by go_num,Xm,qH⟩
       case measure=>simp[intOf];omega
    ·as_aux_lemma=>
     obtain rfl:j=np:=by omega
     have hr:=HR.out.2.2.2.2;rw[List.drop_eq_nil_of_le (by rw[List.length_map,KQ.out.2.2];exact Nat.le_refl _)]at hr;have hr2:xG bg ks Yh id (some ⟨pa,bars.map (barT D),tH.map (bV D),dK.map (rP D)⟩)=(AT,ER):=hr;have HR2:=zH hr2;have vC:=zH (And.intro HR.out.1 (And.intro HR.out.2.1 (And.intro HR.out.2.2.1 HR.out.2.2.2.1)));have hpa:=HR.out.2.2.2.1;clear hr hr2 HR hjl hj;rcases hpa with hpa|⟨pi,hpi,hpn,st,hst,hse,hsa,hsc⟩
     ·as_aux_lemma=>
      subst hpa;have hr:=HR2.out;unfold xG Gt at hr;simp only[]at hr;rw[if_neg (by decide)]at hr;have HR3:Hid (dK.length=ns/\(match uU Yh (dK.map (rP D))with|none=>(uX,(4:Int))|some dK=>(⟨bg,ks,dK⟩,0))=(AT,ER)):=zH ⟨vC.out.2.1,hr⟩;have HVN:Hid (tV B1 D g4 gr bg (.slice Aq nk cq) ks As ns cs dK none 0 0 [] ns0 w wo/\Bk wo g1 25 #[.int .i64 bg,.slice Ak nk ck,.slice (some ⟨g,o,none⟩) NB cb0]):=zH ⟨HV.out.1.reset,HV.out.2.1⟩;clear hr HR2 vC HV;go_wp2
      go_roundw
      case rel=>exact⟨k+1,ns,cs,As,dK,by omega,by go_num,hns,zH ⟨HR3.out.1,by rw[HRST.out];exact HR3.out.2⟩,HVN⟩
      case measure=>simp[intOf];omega
     ·as_aux_lemma=>
      subst hpi;have hpi0:(0:Int)<=(pi:Int):=by omega
      have hr:=HR2.out;unfold xG Gt at hr;simp only[]at hr;rw[if_pos hpi0]at hr;have hil:pi<dK.length:=by rw[vC.out.2.1];exact hpn
      obtain⟨s1,s2,hsp,hl1⟩:=zW dK pi hil
      have XB:dK[pi]=st:=by
       rw[List.getElem?_eq_getElem hil]at hst;injection hst
      rw[XB]at hsp;have hownS:=HV.out.1.own;obtain⟨gS,cS,hvS,-,hmS⟩:=jF hownS (by omega);injection hvS with hvS1 hvS2 hvS3
      subst hvS1
      have hsl:wo.cell? ⟨gS,pi*8+7,none⟩=some (.slice none 0 0):=by
       obtain⟨g',o',hA',_,hc'⟩:=(bP hownS).elem (n:=8) yI (by omega) hil;injection hA' with hA'
       injection hA' with hA1 hA2
       subst hA1;subst hA2;have:=hc' 7 (.slice none 0 0) (by rw[XB];unfold pz.cells;rw[hse,hsa,hsc];rfl)
       simpa using this
      have hfr:=jb hownS rfl (pi*8+7);have a2:wo.cell? ⟨g4,2,none⟩=some (.slice (some ⟨gS,0,none⟩) ns cs):=HV.out.1.ka.cell 2;have HR3:=zH hr;have JK:=zH (And.intro hsp (And.intro hl1 hse));clear hr hsp hl1 XB hil hst hse hsa hsc hvS2 hvS3 HR2 hownS;go_upto_region 21 with fail
      clear a2 hpi0;have b0:wo.cell? ⟨gb,0,none⟩=some (.int .i64 id):=HV.out.2.2.cell 0;obtain⟨W,hW⟩:∃W:World,wo=W:=⟨_,rfl⟩
      rw[hW]at HV hsl b0 hfr⊢;clear hW;obtain⟨wz,hwz⟩:∃z,W.heap.size=z:=⟨_,rfl⟩
      have hnLA:ln<=1048576:=by rw[<-vC.out.2.2.1];exact HV.out.1.lvo.len
      refine cZ 12 (fun k=>false) (by kernel_rfl) (fun qk=>(PR gS pi gb id wz nb cb ln lc Ab LA).getD qk .any) (by kernel_rfl) ?_ ?_
      ·refine aj.cons rfl [] [12] rfl rfl (by kernel_rfl) (by kernel_rfl) (fun qK qa wr hB qO qF hK=>?_) ?_
       ·have e12:qa.tmps[12]? =some (.pointer (some ⟨gS,pi*8,none⟩)):=qO.1.trans rfl;clear qO qF;go_simp;exact hK _ _ zR rfl
       refine aj.cons rfl [] [12] rfl rfl (by kernel_rfl) (by kernel_rfl) (fun qK qa wr hB qO qF hK=>?_) ?_
       ·have e12:qa.tmps[12]? =some (.pointer (some ⟨gS,pi*8,none⟩)):=qO.1.trans rfl;clear qO qF;go_simp;exact hK _ _ zR rfl
       refine aj.cons rfl [1] [] rfl rfl (by kernel_rfl) (by kernel_rfl) (fun qK qa wr hB qO qF hK=>?_) ?_
       ·have e84:=aH qF.1 rfl rfl;clear qO qF;go_simp;exact hK _ _ zR rfl
       refine aj.cons rfl [2] [] rfl rfl (by kernel_rfl) (by kernel_rfl) (fun qK qa wr hB qO qF hK=>?_) ?_
       ·have e85:=aH qF.1 rfl rfl;clear qO qF;go_simp;exact hK _ _ zR rfl
       refine aj.cons rfl [3] [] rfl rfl (by kernel_rfl) (by kernel_rfl) (fun qK qa wr hB qO qF hK=>?_) ?_
       ·have e86:=aH qF.1 rfl rfl;clear qO qF;have hhsl:=zE hB hsl;go_simp;exact hK _ _ zR rfl
       refine aj.cons rfl [] [6] rfl rfl (by kernel_rfl) (by kernel_rfl) (fun qK qa wr hB qO qF hK=>?_) ?_
       ·have e6:qa.tmps[6]? =some (.pointer (some ⟨gb,0,none⟩)):=qO.1.trans rfl;clear qO qF;go_simp;exact hK _ _ zR rfl
       refine aj.cons rfl [5] [] rfl rfl (by kernel_rfl) (by kernel_rfl) (fun qK qa wr hB qO qF hK=>?_) ?_
       ·have e88:=aH qF.1 rfl rfl;clear qO qF;have hb0:=zE hB b0;go_simp;exact hK _ _ zR rfl
       refine aj.cons rfl [] [9] rfl rfl (by kernel_rfl) (by kernel_rfl) (fun qK qa wr hB qO qF hK=>?_) ?_
       ·have e9:qa.tmps[9]? =some (.slice LA ln lc):=qO.1.trans rfl;clear qO qF;go_simp;exact hK _ _ zR rfl
       refine aj.cons rfl [] [8] rfl rfl (by kernel_rfl) (by kernel_rfl) (fun qK qa wr hB qO qF hK=>?_) ?_
       ·have e8:qa.tmps[8]? =some (.slice Ab nb cb):=qO.1.trans rfl;clear qO qF;go_simp;exact hK _ _ zR rfl
       refine aj.cons rfl [6,7,8] [] rfl rfl (by kernel_rfl) (by kernel_rfl) (fun qK qa wr hB qO qF hK=>?_) ?_
       ·have e89:=aH qF.1 rfl rfl;have e90:=aH qF.2.1 rfl rfl;have e91:=aH qF.2.2.1 rfl rfl;clear qO qF;go_simp;exact hK _ _ zR rfl
       refine aj.cons rfl [9] [] rfl rfl (by kernel_rfl) (by kernel_rfl) (fun qK qa wr hB qO qF hK=>?_) ?_
       ·have e92:=aH qF.1 rfl rfl;clear qO qF;go_simp;exact hK _ _ (zR.alloc zL _) ⟨_,rfl,Bk.new _ _ _⟩
       refine aj.cons rfl [4,10] [] rfl rfl (by kernel_rfl) (by kernel_rfl) (fun qK qa wr hB qO qF hK=>?_) ?_
       ·have e87:=aH qF.1 rfl rfl;obtain⟨u93,X5,r10⟩:=qF.2.1;obtain⟨g93,h93,k93⟩:=(show∃g,u93=.slice (some ⟨g,0,none⟩) 1 1/\Bk wr g 55 #[.int .i64 (id:Nat),.slice LA ln lc,.slice Ab nb cb]from r10)
        subst h93;have X5:qa.tmps[93]? =some (.slice (some ⟨g93,0,none⟩) 1 1):=X5;clear qO qF;refine eF (.tmp 87) (.tmp 93) 42 rfl wz 55 iEn _ 3 56 Try.underlying42 hEn hEn0 hEn1 hEn2 rfl (by decide) (.slice none 0 0) 0 [] (bK e87) (World.ownsRow_nil _ _ _ _) (g93+1) (some ⟨g93,0,none⟩) 1 1 [.int .i64 (id:Nat),.slice LA ln lc,.slice Ab nb cb] (bK X5) (Rd.bk k93 (Nat.lt_succ_self _)) rfl (by intro u hu;simp at hu;rcases hu with rfl|rfl|rfl<;>rfl) (by unfold maxLen;omega) (by omega) (by have:=hB.size;omega) ?_;intro A9 c9 w9 bD jO _;have dZ:Below wr.heap.size wr w9:=⟨jO.os,jO.tape,jO.output,jO.size,fun q hq=>jO.block q hq (by simp[Value.ownBlock])⟩
        obtain⟨ge,ce,hv9,_,_⟩:=jF bD (by omega);injection hv9 with hv9 hv9b hv9c
        subst hv9;subst hv9c;exact hK _ _ dZ ⟨ge,c9,rfl,by simpa using bD⟩
       exact aj.nil
      intro vals wr hl hB hR hS
      match vals,hl with
      |[z83,z84,z85,z86,z87,z88,z89,z90,z91,z92,z93,z94],_=>
      have r0:z83=.pointer (some ⟨gS,pi*8,none⟩):=hR 0 _ rfl;subst r0;have r11:(fun v w=>∃(ge ce:Nat),v=.slice (some ⟨ge,0,none⟩) 1 ce/\w.ownsRow wz 55 3 (.slice (some ⟨ge,0,none⟩) 1 ce) 1 [.int .i64 (id:Nat),.slice LA ln lc,.slice Ab nb cb]) z94 wr:=hR 11 _ rfl;clear hS;clear hR;simp only[List.take_succ_cons,List.take_zero,List.drop_succ_cons,List.drop_zero,List.toList_toArray,List.cons_append,List.nil_append,aN,Act.put,List.setIfInBounds_toArray,List.set_cons_zero,List.set_cons_succ];obtain⟨ge,ce,rfl,hend⟩:=r11;have hv2:=HV.out.1.old hB;have PX:B1<=wz:=by have:=HV.out.1.sz;omega
      have fr2:wr.frozen? ⟨gS,pi*8+7,none⟩=false:=jb hv2.own rfl _;have sl2:wr.cell? ⟨gS,pi*8+7,none⟩=some (.slice none 0 0):=zE hB hsl
      have hv3:=hv2.end1 hwB vC.out.1 JK.out.1 (gS:=gS) rfl Xu Xv (id:=id) (ge:=ge) (ce:=ce) (by
       have h5:=dF hend PX
       show wr.ownsRow B1 55 3 (.slice (some ⟨ge,0,none⟩) 1 ce) 1 [.int .i64 id,.slice LA tH.length lc,.slice Ab nb cb]
       rw[vC.out.2.2.1]
       exact h5)
      rw[JK.out.2.1]at hv3;have hgS1:B1<=gS:=(hv2.own.lt gS rfl).1
      have hmap:(s1++{st with eA:=some ⟨ge,0,none⟩,ec:=ce,ends:=[⟨id,⟨LA,lc,tH⟩,Ab,cb,bars⟩]}::s2).map (rP D)=(dK.map (rP D)).modify pi (fun s=>{s with ends:=s.ends++[⟨id,tH.map (bV D),bars.map (barT D)⟩]}):=by
       rw[JK.out.1,List.map_append,List.map_cons,List.map_append,List.map_cons];have e5:pi=(s1.map (rP D)).length:=by rw[List.length_map,JK.out.2.1]
       rw[e5,lV]
       congr 2
       unfold rP;rw[JK.out.2.2];rfl
      have HVN:Hid (tV B1 D g4 gr bg (.slice Aq nk cq) ks (some ⟨gS,0,none⟩) ns cs (s1++{st with eA:=some ⟨ge,0,none⟩,ec:=ce,ends:=[⟨id,⟨LA,lc,tH⟩,Ab,cb,bars⟩]}::s2) none 0 0 [] ns0 w (wr.setCell ⟨gS,pi*8+7,none⟩ (.slice (some ⟨ge,0,none⟩) 1 ce))/\Bk (wr.setCell ⟨gS,pi*8+7,none⟩ (.slice (some ⟨ge,0,none⟩) 1 ce)) g1 25 #[.int .i64 bg,.slice Ak nk ck,.slice (some ⟨g,o,none⟩) NB cb0]):=zH ⟨hv3,(HV.out.2.1.old hB).far (by show g1≠gS;omega) _⟩
      have uP:Hid ((s1++{st with eA:=some ⟨ge,0,none⟩,ec:=ce,ends:=[⟨id,⟨LA,lc,tH⟩,Ab,cb,bars⟩]}::s2).length=ns/\(match uU (t.branches.drop (k+1)) ((s1++{st with eA:=some ⟨ge,0,none⟩,ec:=ce,ends:=[⟨id,⟨LA,lc,tH⟩,Ab,cb,bars⟩]}::s2).map (rP D))with|none=>(uX,(4:Int))|some dK=>(⟨bg,ks,dK⟩,0))=(AT,ER)):=zH
       ⟨by have h5:=vC.out.2.1;rw[JK.out.1]at h5;simpa using h5,by rw[hmap,HRST.out];exact HR3.out⟩
      clear hv2 hv3 hmap hend JK vC HR3 HV hsl hfr b0 hB;go_wp2
      go_roundw
      case rel=>exact⟨k+1,ns,cs,some ⟨gS,0,none⟩,s1++{st with eA:=some ⟨ge,0,none⟩,ec:=ce,ends:=[⟨id,⟨LA,lc,tH⟩,Ab,cb,bars⟩]}::s2,by omega,by go_num,hns,uP,HVN⟩
      case measure=>simp[intOf];omega
  ·as_aux_lemma=>
   obtain rfl:k=NB:=by omega
   have hr:=HR.out.2;rw[List.drop_eq_nil_of_le (by rw[<-HT.out,List.length_map,BR.out];exact Nat.le_refl _)]at hr;have hr:((⟨bg,ks,dK.map (rP D)⟩:uV),(0:Int))=(AT,ER):=hr;injection hr with h1 h2
   subst h1;subst h2;have a0:W.cell? ⟨g4,0,none⟩=some (.int .i64 bg):=HV.out.1.ka.cell 0;have a1:W.cell? ⟨g4,1,none⟩=some (.slice Aq nk cq):=HV.out.1.ka.cell 1;have a2:W.cell? ⟨g4,2,none⟩=some (.slice As ns cs):=HV.out.1.ka.cell 2;have kr:=HV.out.1.kr;have G6:=zH HR.out.1;clear HR hlt hk;go_wp2_with (first|(refine ae jU rfl _ _ rfl rfl [.int .i64 bg,.slice Aq nk cq,.slice As ns cs] rfl kr rfl rfl rfl ?_;intro w9 p9))
   obtain⟨u0,u1,u2⟩:=zc3 p9.bk;have hsf:∀q,kM B1 (.slice As ns cs) (.slice none 0 0) q->q<W.heap.size->(w.heap.size<=q/\some q≠(Value.slice As ns cs).ownBlock)/\q<w9.heap.size/\w9.heap[q]? =W.heap[q]? :=fun q hS hlt=>⟨⟨by have:=hS.1;omega,hS.2.1⟩,by rw[p9.size];exact hlt,p9.other q (by have:=hS.1;omega)⟩
   have HF:Hid (su D w.heap.size ⟨bg,ks,dK.map (rP D)⟩ (.agg #[.int .i64 bg,.slice Aq nk cq,.slice As ns cs]) w9/\Below w.heap.size w w9):=zH
    ⟨⟨.slice Aq nk cq,As,cs,dK,by rw[G6.out],HV.out.1.UL.kept p9.grown (.inr fun e=>aF HV.out.1.UL HV.out.1.kr (by decide) e.symm),by rw[G6.out];exact dF (HV.out.1.own.kept p9.grown (.inr fun e=>aF HV.out.1.own HV.out.1.kr (by decide) e.symm)) hwB,fun st hs=>by rw[G6.out];exact(HV.out.1.oks st hs).keep hsf,rfl⟩,p9.below _ _ HV.out.1.bel KE⟩
   clear p9 a0 a1 a2 kr hsf;refine bodyPost_ret (v:=.tuple #[.agg #[.int .i64 bg,.slice Aq nk cq,.slice As ns cs],.int .i64 0]) (by simp[results,Try.results6,go_sem,u0,u1,u2]) rfl ?_;exact⟨_,rfl,HF.out.1,HF.out.2⟩
structure JO where
 A:Option Addr
 n:Nat
 c:Nat
def JO.val (x:JO):Value:=.slice x.A x.n x.c
structure Gv where
 br:Int
 cl:JO
 bs:JO
def Gv.cells (x:Gv):List Value:=[.int .i64 x.br,x.cl.val,x.bs.val]
structure kG where
 p:Int
 t:Int
 m:Bool
 w:Int
 s4:JO
 s5:JO
 s6:JO
 eA:Option Addr
 ec:Nat
 es:List Gv
def kG.cells (x:kG):List Value:=[.int .i64 x.p,.int .i64 x.t,.bool x.m,.int .i64 x.w,x.s4.val,x.s5.val,x.s6.val,.slice x.eA x.es.length x.ec]
theorem rE (x:kG):x.cells.length=8:=rfl
theorem Tv (x:Gv):x.cells.length=3:=rfl
def Gw (i:Nat) (s:kG):Bool:=(((decide (s.p< -1)||decide ((i:Int)<=s.p))||decide (s.t<0))||decide (s.w<0))||decide (1152921504606846976<s.w)
def tJ (l:List Gv):Bool:=l.all fun e=> !decide (e.br<0)
def nP:Nat->List kG->Bool
 |_,[]=>true
 |i,s::l=>(!Gw i s&&tJ s.es)&&nP (i+1) l
def uY (bg:Int) (l:List kG):Bool:=if(decide (bg<1)||decide (3<bg))||decide (32<l.length)then false else nP 0 l
structure PZ (A:Option Addr) (l:List kG) (w:World):Prop where
 rd:Rd w w.heap.size A (l.flatMap kG.cells)
 each:∀s∈l,Rd w w.heap.size s.eA (s.es.flatMap Gv.cells)
 len:l.length<=1099511627776
 elen:∀s∈l,s.es.length<=1099511627776
theorem PZ.old {A:Option Addr} {l:List kG} {w w':World} (h:PZ A l w) (hb:Below w.heap.size w w'):PZ A l w':=⟨h.rd.oldR hb,fun s hs=>(h.each s hs).oldR hb,h.len,h.elen⟩
theorem D5 (w:World):(sizeOf 44).run Try.prog w=.ok 8 w:=by
 obtain⟨i,hi,h0,h1,h2⟩:=info_parts PN;simp[sizeOf,typeInfo,hi,h1]
theorem P5 (w:World):(sizeOf 55).run Try.prog w=.ok 3 w:=by
 obtain⟨i,hi,h0,h1,h2⟩:=info_parts JM;simp[sizeOf,typeInfo,hi,h1]
theorem Gx (bg:Int) (kA A:Option Addr) (kn kc c:Nat) (l:List kG) (w:World) (h:PZ A l w):Calls Try.prog 8 #[.agg #[.int .i64 bg,.slice kA kn kc,.slice A l.length c]] w fun r w'=>r=.returned (.bool (uY bg l))/\Below w.heap.size w w':=by
 obtain⟨RES,hres⟩:∃z,uY bg l=z:=⟨_,rfl⟩
 rw[hres];have aK:=zH hres;have HI:=zH h;obtain⟨n,hn⟩:∃z,l.length=z:=⟨_,rfl⟩
 have hn2:n<=1099511627776:=by rw[<-hn];exact h.len
 rw[hn];have HN:=zH hn;clear hres h hn
 go_enter Try.func8,Try.ntmps8
 have k1:=Bk.new w 34 #[.int .i64 bg,.slice kA kn kc,.slice A n c];have hb1:Below w.heap.size w (w.alloc (.cells #[.int .i64 bg,.slice kA kn kc,.slice A n c] 34)):=zR.alloc zL _;go_upto_region 1 with fail
 obtain⟨w1,hw1⟩:∃z,w.alloc (.cells #[.int .i64 bg,.slice kA kn kc,.slice A n c] 34)=z:=⟨_,rfl⟩
 rw[hw1]at k1 hb1⊢;obtain⟨g1,hg1⟩:∃z,w.heap.size=z:=⟨_,rfl⟩
 have HG1:=zH hg1;rw[hg1]at k1⊢;have q0:w1.cell? ⟨g1,0,none⟩=some (.int .i64 bg):=k1.cell 0;have q2:w1.cell? ⟨g1,2,none⟩=some (.slice A n c):=k1.cell 2;have hgl:=k1.lt;have HB1:=zH hb1;have Uf:=zH k1;clear k1 hb1 hw1 hg1;obtain⟨bad,hbad⟩:∃z,((decide (bg<1)||decide (3<bg))||decide (32<n))=z:=⟨_,rfl⟩
 have hR:(if bad=true then false else nP 0 l)=RES:=by
  rw[<-aK.out,<-hbad];unfold uY;rw[HN.out]
 have HR:=zH hR;have HBAD:=zH hbad;clear hR hbad aK
 go_cut[20] (fun v wx=>v=.bool bad/\w1=wx)
 case first=>
  as_aux_lemma=>
  have hb:=HBAD.out
  by_cases h1:bg<1
  ·have:bad=true:=by rw[<-hb];simp[h1]
   subst this;clear hb HBAD;go_wp2_with fail
   go_meet
   exact⟨rfl,rfl⟩
  ·by_cases h3:3<bg
   ·have:bad=true:=by rw[<-hb];simp[h3]
    subst this;clear hb HBAD;go_wp2_with fail
    go_meet
    exact⟨rfl,rfl⟩
   ·by_cases h32:32<n
    ·have hI:(32:Int)<(n:Int):=by omega
     have:bad=true:=by rw[<-hb];simp[h32]
     subst this;clear hb HBAD;go_wp2_with fail
     go_meet
     exact⟨rfl,rfl⟩
    ·have hI:¬(32:Int)<(n:Int):=by omega
     have:bad=false:=by rw[<-hb];simp[h1,h3,h32]
     subst this;clear hb HBAD;go_wp2_with fail
     go_meet
     exact⟨rfl,rfl⟩
 case rest=>
 obtain⟨rfl,hwc⟩:=hcut;subst hwc;cases bad
 case true=>
  as_aux_lemma=>
  have hR:=HR.out;rw[if_pos rfl]at hR;subst hR;clear HR HBAD;go_wp2
  go_ret
  exact⟨rfl,HB1.out⟩
 case false=>
 have hR:=HR.out;rw[if_neg (by decide)]at hR;have H0:Hid (nP 0 (l.drop 0)=RES):=zH (by rw[List.drop_zero];exact hR)
 have hn32:n<=32:=by
  have hb:=HBAD.out;simp only[Bool.or_eq_false_iff,decide_eq_false_iff_not]at hb;omega
 clear hR HR HBAD q0;go_wp2_with fail
 clear q2
 go_loopw[24] (fun i wr=>∃k:Nat,k<=n/\i=.int .i64 k/\Hid (nP k (l.drop k)=RES)/\Hid (Below w1.heap.size w1 wr)) (fun i _=>n-(intOf i).toNat)
 case atStart=>exact⟨0,Nat.zero_le _,rfl,H0,zH zR⟩
 case round=>
  clear H0;obtain⟨k,hk,rfl,HR,HB⟩:=hrel;obtain⟨wo,rfl⟩:∃wo:World,wo=wr:=⟨_,rfl⟩
  by_cases hlt:k<n
  ·as_aux_lemma=>
   have hkl:k<l.length:=by rw[HN.out];exact hlt
   have kR:Below w.heap.size w wo:=HB1.out.trans (HB.out.mono HB1.out.size);obtain⟨g,o,rfl,hg,hc⟩:=HI.out.rd.elem (n:=8) rE (by omega) hkl;have hr:=HR.out;rw[List.drop_eq_getElem_cons hkl]at hr;have hed:=HI.out.each _ (List.getElem_mem hkl);have hel:=HI.out.elen _ (List.getElem_mem hkl);obtain⟨s,hs⟩:∃z,l[k]=z:=⟨_,rfl⟩
   rw[hs]at hc hr hed hel;obtain⟨p,t,m,win,⟨A4,n4,c4⟩,⟨A5,n5,c5⟩,⟨A6,n6,c6⟩,eA,ec,es⟩:=s;have hr2:((!Gw k ⟨p,t,m,win,⟨A4,n4,c4⟩,⟨A5,n5,c5⟩,⟨A6,n6,c6⟩,eA,ec,es⟩&&tJ es)&&nP (k+1) (l.drop (k+1)))=RES:=hr;obtain⟨bad,hbad⟩:∃z,Gw k ⟨p,t,m,win,⟨A4,n4,c4⟩,⟨A5,n5,c5⟩,⟨A6,n6,c6⟩,eA,ec,es⟩=z:=⟨_,rfl⟩
   rw[hbad]at hr2;have UN:((((decide (p< -1)||decide ((k:Int)<=p))||decide (t<0))||decide (win<0))||decide (1152921504606846976<win))=bad:=hbad;simp only at hed hel;obtain⟨ne,hne⟩:∃z,es.length=z:=⟨_,rfl⟩
   have hcc:∀(q:Nat) (u:Value),(kG.mk p t m win ⟨A4,n4,c4⟩ ⟨A5,n5,c5⟩ ⟨A6,n6,c6⟩ eA ec es).cells[q]? =some u->wo.cell? ⟨g,o+k*8+q,none⟩=some u:=fun q u hu=>(aU kR g _ hg).trans (hc q u hu)
   have r0:wo.cell? ⟨g,o+k*8,none⟩=some (.int .i64 p):=hcc 0 _ rfl;have r1:wo.cell? ⟨g,o+k*8+1,none⟩=some (.int .i64 t):=hcc 1 _ rfl;have r2:wo.cell? ⟨g,o+k*8+2,none⟩=some (.bool m):=hcc 2 _ rfl;have r3:wo.cell? ⟨g,o+k*8+3,none⟩=some (.int .i64 win):=hcc 3 _ rfl;have r4:wo.cell? ⟨g,o+k*8+4,none⟩=some (.slice A4 n4 c4):=hcc 4 _ rfl;have r5:wo.cell? ⟨g,o+k*8+5,none⟩=some (.slice A5 n5 c5):=hcc 5 _ rfl;have r6:wo.cell? ⟨g,o+k*8+6,none⟩=some (.slice A6 n6 c6):=hcc 6 _ rfl;have r7:wo.cell? ⟨g,o+k*8+7,none⟩=some (.slice eA ne ec):=by rw[<-hne];exact hcc 7 _ rfl
   have HBAD:=zH UN;have HR2:=zH hr2;have Yi:=zH (And.intro hed (And.intro hel hne));clear hcc hc hr hr2 hbad UN hed hel hne hs hg kR HR;go_upto_region 6 with(first|(refine ae D5 rfl _ _ rfl rfl [.int .i64 p,.int .i64 t,.bool m,.int .i64 win,.slice A4 n4 c4,.slice A5 n5 c5,.slice A6 n6 c6,.slice eA ne ec] rfl (Bk.new wo _ _) rfl rfl rfl ?_;intro w4 p4;go_frame))
   have hb4:Below wo.heap.size wo w4:=p4.below _ _ (zR.alloc zL _) zL;obtain⟨gt,hgt⟩:∃z,wo.heap.size=z:=⟨_,rfl⟩
   have hkt:=p4.bk;rw[hgt]at hkt⊢;have HB4:=zH (HB.out.trans (hb4.mono HB.out.size));have t0:w4.cell? ⟨gt,0,none⟩=some (.int .i64 p):=hkt.cell 0;have t1:w4.cell? ⟨gt,1,none⟩=some (.int .i64 t):=hkt.cell 1;have t3:w4.cell? ⟨gt,3,none⟩=some (.int .i64 win):=hkt.cell 3;have t7:w4.cell? ⟨gt,7,none⟩=some (.slice eA ne ec):=hkt.cell 7;clear r0 r1 r2 r3 r4 r5 r6 r7 p4 hb4 hkt hgt HB
   go_cut[52] (fun v wx=>v=.bool bad/\w4=wx)
   case first=>
    as_aux_lemma=>
    have hb:=HBAD.out
    by_cases h1:p< -1
    ·have:bad=true:=by rw[<-hb];simp[h1]
     subst this;clear hb HBAD;go_wp2_with fail
     go_meet
     exact⟨rfl,rfl⟩
    ·by_cases h2:(k:Int)<=p
     ·have:bad=true:=by rw[<-hb];simp[h2]
      subst this;clear hb HBAD;go_wp2_with fail
      go_meet
      exact⟨rfl,rfl⟩
     ·by_cases h3:t<0
      ·have:bad=true:=by rw[<-hb];simp[h3]
       subst this;clear hb HBAD;go_wp2_with fail
       go_meet
       exact⟨rfl,rfl⟩
      ·by_cases h4:win<0
       ·have:bad=true:=by rw[<-hb];simp[h4]
        subst this;clear hb HBAD;go_wp2_with fail
        go_meet
        exact⟨rfl,rfl⟩
       ·by_cases h5:1152921504606846976<win
        ·have:bad=true:=by rw[<-hb];simp[h5]
         subst this;clear hb HBAD;go_wp2_with fail
         go_meet
         exact⟨rfl,rfl⟩
        ·have:bad=false:=by rw[<-hb];simp[h1,h2,h3,h4,h5]
         subst this;clear hb HBAD;go_wp2_with fail
         go_meet
         exact⟨rfl,rfl⟩
   case rest=>
   obtain⟨rfl,hwc⟩:=hcut;subst hwc;clear t0 t1 t3 HBAD;cases bad
   case true=>
    as_aux_lemma=>
    have hr:=HR2.out;simp only[Bool.not_true,Bool.false_and]at hr;subst hr;have HF:=zH (HB1.out.trans (HB4.out.mono HB1.out.size));clear HR2;go_wp2
    go_ret
    exact⟨rfl,HF.out⟩
   case false=>
   have hr:=HR2.out;simp only[Bool.not_false,Bool.true_and]at hr;obtain⟨R2,hR2⟩:∃z,nP (k+1) (l.drop (k+1))=z:=⟨_,rfl⟩
   rw[hR2]at hr;have HR3:Hid ((tJ (es.drop 0)&&R2)=RES):=zH (by rw[List.drop_zero];exact hr);have uP:=zH hR2;have hne40:ne<=1099511627776:=by have:=Yi.out.2.1;have:=Yi.out.2.2;omega
   clear hr hR2 HR2;go_wp2_with fail
   clear t7
   go_loopw[56] (fun i wr=>∃j:Nat,j<=ne/\i=.int .i64 j/\Hid ((tJ (es.drop j)&&R2)=RES)/\Hid (Below w1.heap.size w1 wr)) (fun i _=>ne-(intOf i).toNat)
   case atStart=>exact⟨0,Nat.zero_le _,rfl,HR3,HB4⟩
   case round=>
    clear HR3 HB4;obtain⟨j,hj,rfl,HR,HB⟩:=hrel;obtain⟨wo,rfl⟩:∃wo:World,wo=wr:=⟨_,rfl⟩
    by_cases hjl:j<ne
    ·as_aux_lemma=>
     have hkj:j<es.length:=by rw[Yi.out.2.2];exact hjl
     have kR:Below w.heap.size w wo:=HB1.out.trans (HB.out.mono HB1.out.size);obtain⟨g',o',rfl,hg',hc'⟩:=Yi.out.1.elem (n:=3) Tv (by omega) hkj;have hr:=HR.out;rw[List.drop_eq_getElem_cons hkj]at hr;obtain⟨e,he⟩:∃z,es[j]=z:=⟨_,rfl⟩
     rw[he]at hc' hr;obtain⟨ib,⟨A7,n7,c7⟩,⟨A8,n8,c8⟩⟩:=e;have hr2:(((!decide (ib<0))&&tJ (es.drop (j+1)))&&R2)=RES:=hr;have r0:wo.cell? ⟨g',o'+j*3,none⟩=some (.int .i64 ib):=(aU kR g' _ hg').trans (hc' 0 _ rfl);have r1:wo.cell? ⟨g',o'+j*3+1,none⟩=some (.slice A7 n7 c7):=(aU kR g' _ hg').trans (hc' 1 _ rfl);have r2:wo.cell? ⟨g',o'+j*3+2,none⟩=some (.slice A8 n8 c8):=(aU kR g' _ hg').trans (hc' 2 _ rfl);have HR2:=zH hr2;clear hr hr2 he hc' hg' kR HR;go_upto_region 11 with(first|(refine ae P5 rfl _ _ rfl rfl [.int .i64 ib,.slice A7 n7 c7,.slice A8 n8 c8] rfl (Bk.new wo _ _) rfl rfl rfl ?_;intro w5 p5;go_frame))
     have hb5:Below wo.heap.size wo w5:=p5.below _ _ (zR.alloc zL _) zL;obtain⟨gt2,hgt2⟩:∃z,wo.heap.size=z:=⟨_,rfl⟩
     have XC:=p5.bk;rw[hgt2]at XC⊢;have Ot:=zH (HB.out.trans (hb5.mono HB.out.size));have v0:w5.cell? ⟨gt2,0,none⟩=some (.int .i64 ib):=XC.cell 0;clear r0 r1 r2 p5 hb5 XC hgt2 HB
     by_cases h0:ib<0
     ·as_aux_lemma=>
      have hr:=HR2.out;rw[decide_eq_true h0]at hr;simp only[Bool.not_true,Bool.false_and]at hr;subst hr;have HF:=zH (HB1.out.trans (Ot.out.mono HB1.out.size));clear HR2;go_wp2
      go_ret
      exact⟨rfl,HF.out⟩
     ·as_aux_lemma=>
      have hr:=HR2.out;rw[decide_eq_false h0]at hr;simp only[Bool.not_false,Bool.true_and]at hr;have HR3:=zH hr;clear HR2 hr;go_wp2
      go_roundw
      case rel=>exact⟨j+1,by omega,by go_num,HR3,Ot⟩
      case measure=>simp[intOf];omega
    ·as_aux_lemma=>
     obtain rfl:j=ne:=by omega
     have hr:=HR.out;rw[List.drop_eq_nil_of_le (by rw[Yi.out.2.2];exact Nat.le_refl _)]at hr;have hr:(true&&R2)=RES:=hr;rw[Bool.true_and]at hr;have HR3:Hid (nP (k+1) (l.drop (k+1))=RES):=zH (uP.out.trans hr);clear hr HR uP Yi hjl hj;go_wp2
     go_roundw
     case rel=>exact⟨k+1,by omega,by go_num,HR3,HB⟩
     case measure=>simp[intOf];omega
  ·as_aux_lemma=>
   obtain rfl:k=n:=by omega
   have hr:=HR.out;rw[List.drop_eq_nil_of_le (by rw[HN.out];exact Nat.le_refl _)]at hr;have hr:true=RES:=hr;subst hr;have HF:=zH (HB1.out.trans (HB.out.mono HB1.out.size));clear HR HB;go_wp2
   go_ret
   exact⟨rfl,HF.out⟩
end Go.Proofs.Ytbjnhllkdilpfaa
