/- Part 29 of the proof. No conditions. -/
import Derived.Test.YtbjnhllkdilpfaaZc27
namespace Go.Proofs.Ytbjnhllkdilpfaa
open Go.RowKit
set_option maxRecDepth 100000
set_option maxHeartbeats 16000000
set_option linter.unusedVariables false
set_option linter.unusedSimpArgs false
def UH (s:ai) (items:List bP) (op n sc:Nat) (nm a:Str) (K:Int) (asked:Str) (ts:List T):T:=
 if op<20 then .mk op K ts 0 0 0 0
 else if op=21 then .mk 40 K [] K (y9 n sc).1 0 0
 else if op=23 then .mk 40 K [] K (fC nm 0 (s.syms.map (·.toList))).toNat 0 0
 else if op<24 then .mk 40 K [] K n 0 0
 else if op=25 then .mk op K ts 0 0 (dV nm items).1.pos 0
 else if op=24 then
  if nm=asked then .mk 41 K ts 0 0 0 (if a≠iH then bM s (dV nm items).1.kind a else -1)
  else .mk 42 K ts 0 0 (dV nm items).1.pos (if a≠iH then bM s (dV nm items).1.kind a else -1)
 else .mk op K ts 0 0 (dV nm items).1.pos (if a≠iH then bM s (dV nm items).1.kind a else -1)
def MO (s:ai) (m:MS) (asked:Str):ax->T
 |.leaf op n sc nm a p=>UH s m.items op n sc nm a (dW s (.leaf op n sc nm a p) m).1 asked []
 |.un op x p=>UH s m.items op 0 0 [] [] (dW s (.un op x p) m).1 asked [MO s m asked x]
 |.bin op x y p=>UH s m.items op 0 0 [] [] (dW s (.bin op x y p) m).1 asked [MO s m asked x,MO s m asked y]
def wG (d:Nat) (t:T) (W:World) (r:Ending) (W':World):Prop:=∃cs:List Value,r=.returned (.agg cs.toArray)/\eu (fun q=>W.heap.size<=q) d t cs W'/\Below W.heap.size W W'
structure zA5 (b:Nat) (AS:ByteArray) (w:World) (A:Option Addr) (j d:Nat) (t:T):Prop where
 ex:∃(g:Nat) (d0 d1 d2 d3 d4 d5 d6:Value),A=some ⟨g,0,none⟩/\g<w.heap.size/\(∀(q:Nat) (u:Value),[d0,d1,d2,d3,d4,d5,d6][q]? =some u->w.cell? ⟨g,j*7+q,none⟩=some u)/\
  ∀W:World,Below w.heap.size w W->Calls Try.prog 72 #[.pointer (some ⟨b,0,none⟩),.agg #[d0,d1,d2,d3,d4,d5,d6],.string AS] W (wG d t W)
structure UI (bx gr gx B1 d:Nat) (cx:Array Value) (w:World) (op K:Int) (A:Option Addr) (n c:Nat) (vs:List au) (W:World):Prop where
 kx:Bk W bx 118 cx
 kr:Bk W gr 76 #[.int .i64 0,.int .i64 0,.slice none 0 0,.int .i64 0,.int .u64 0,.int .i64 0,.int .i64 0]
 kn:Bk W gx 76 #[.int .i64 op,.int .i64 K,.slice A n c,.int .i64 0,.int .u64 0,.int .i64 0,.int .i64 0]
 own:W.ownsRow B1 76 7 (.slice A n c) n (vs.flatMap au.cells)
 oks:∀y∈vs,okS (fun q=>B1<=q/\some q≠(Value.slice A n c).ownBlock) d y W
 bel:Below w.heap.size w W
 sz:B1<=W.heap.size
theorem dA (w:World):(sizeOf 76).run Try.prog w=.ok 7 w:=by
 obtain⟨i,hi,h0,h1,h2⟩:=info_parts FO;simp[sizeOf,typeInfo,hi,h1]
theorem UI.old {bx gr gx B1 d:Nat} {cx:Array Value} {w:World} {op K:Int} {A:Option Addr} {n c:Nat} {vs:List au} {W W':World} (h:UI bx gr gx B1 d cx w op K A n c vs W) (hb:Below W.heap.size W W'):UI bx gr gx B1 d cx w op K A n c vs W':=
 ⟨h.kx.old hb,h.kr.old hb,h.kn.old hb,aQ h.own hb,fun y hy=>(h.oks y hy).keep fun q hq hlt=>⟨hq,Nat.lt_of_lt_of_le hlt hb.size,hb.block q hlt⟩,h.bel.trans (hb.mono h.bel.size),Nat.le_trans h.sz hb.size⟩
theorem UI.grow {bx gr gx B1 d : Nat} {cx : Array Value} {w : World} {op K : Int} {A A' : Option Addr} {k c c' : Nat} {vs : List au} {n : au} {W W' : World} (h : UI bx gr gx B1 d cx w op K A k c vs W) (hbx : bx < B1) (hgr : gr < B1) (hgx : gx < B1) (hw : w.heap.size ≤ gx) (hxr : gx ≠ gr) (hxb : gx ≠ bx) {Wn : Nat} (hWn : B1 ≤ Wn) (hf : ∀ q, Wn ≤ q → some q ≠ (Value.slice A k c).ownBlock)
  (hn:okS (fun q=>Wn<=q) d n W) (hown:W'.ownsRow B1 76 7 (.slice A' (k+1) c') (k+1) (vs.flatMap au.cells++n.cells)) (hg:W.grownBy W' (Value.slice A k c).ownBlock) (hwh:(Value.slice A' (k+1) c').ownBlock=(Value.slice A k c).ownBlock\/(Value.slice A' (k+1) c').ownBlock=some W.heap.size):
  UI bx gr gx B1 d cx w op K A' (k+1) c' (vs++[n]) (W'.setCell ⟨gx,2,none⟩ (.slice A' (k+1) c')):=by
 have lo:∀q,q<B1->some q≠(Value.slice A k c).ownBlock:=fun q hq e=>by have:=(h.own.lt q e.symm).1;omega
 have lo':∀q,q<B1->some q≠(Value.slice A' (k+1) c').ownBlock:=fun q hq e=>by have:=(hown.lt q e.symm).1;omega
 have keep:∀q,B1<=q->q<W.heap.size->some q≠(Value.slice A k c).ownBlock->q<(W'.setCell ⟨gx,2,none⟩ (.slice A' (k+1) c')).heap.size/\(W'.setCell ⟨gx,2,none⟩ (.slice A' (k+1) c')).heap[q]? =W.heap[q]? :=by
  intro q h1 h2 h3;have hz:=hg.size;refine⟨by simp;omega,?_⟩;rw[Below.heap_setCell W' _ _ q (by show q≠gx;omega),hg.block q h2 h3]
 have hne:∀q,q<W.heap.size->some q≠(Value.slice A k c).ownBlock->some q≠(Value.slice A' (k+1) c').ownBlock:=by
  intro q h1 h2;rcases hwh with e|e
  ·rw[e];exact h2
  ·rw[e];intro he;injection he with he;omega
 refine⟨(h.kx.grown hg (lo bx hbx)).far (by show bx≠gx;omega) _,(h.kr.grown hg (lo gr hgr)).far (by show gr≠gx;omega) _,(h.kn.grown hg (lo gx hgx)).put 2 _,?_,?_,?_,?_⟩
 ·rw[List.flatMap_append];have:=ownsRow_setCell_other hown (fun e=>lo' gx hgx e.symm) (.slice A' (k+1) c') (a:=⟨gx,2,none⟩)
  simpa using this
 ·intro y hy;rcases List.mem_append.1 hy with hy|hy
  ·refine(h.oks y hy).keep fun q hq hlt=>?_
   obtain⟨k1,k2⟩:=keep q hq.1 hlt hq.2;exact⟨⟨hq.1,hne q hlt hq.2⟩,k1,k2⟩
  ·simp only[List.mem_cons,List.not_mem_nil,or_false]at hy;subst hy;refine hn.keep fun q hq hlt=>?_
   obtain⟨k1,k2⟩:=keep q (by omega) hlt (hf q hq);exact⟨⟨by omega,hne q hlt (hf q hq)⟩,k1,k2⟩
 ·refine Below.setCell ?_ hw _;have hz:=hg.size;have hb:=h.bel;exact⟨hg.os.trans hb.os,hg.tape.trans hb.tape,hg.output.trans hb.output,Nat.le_trans hb.size hz,fun q hq=>(hg.block q (Nat.lt_of_lt_of_le hq hb.size) (lo q (by omega))).trans (hb.block q hq)⟩
 ·have:=h.sz;have:=hg.size;simp;omega
structure VG (bx gr B1 d:Nat) (cx:Array Value) (w:World) (A:Option Addr) (n c:Nat) (vs:List au) (W:World):Prop where
 kx:Bk W bx 118 cx
 kr:Bk W gr 76 #[.int .i64 0,.int .i64 0,.slice none 0 0,.int .i64 0,.int .u64 0,.int .i64 0,.int .i64 0]
 own:W.ownsRow B1 76 7 (.slice A n c) n (vs.flatMap au.cells)
 oks:∀y∈vs,okS (fun q=>B1<=q/\some q≠(Value.slice A n c).ownBlock) d y W
 bel:Below w.heap.size w W
 sz:B1<=W.heap.size
theorem UI.m {bx gr gx B1 d:Nat} {cx:Array Value} {w:World} {op K:Int} {A:Option Addr} {n c:Nat} {vs:List au} {W:World} (h:UI bx gr gx B1 d cx w op K A n c vs W):VG bx gr B1 d cx w A n c vs W:=⟨h.kx,h.kr,h.own,h.oks,h.bel,h.sz⟩
section
variable {bx gr B1 d:Nat} {cx:Array Value} {w:World} {A:Option Addr} {n c:Nat} {vs:List au} {W W':World}
theorem VG.old (h:VG bx gr B1 d cx w A n c vs W) (hb:Below W.heap.size W W'):VG bx gr B1 d cx w A n c vs W':=
 ⟨h.kx.old hb,h.kr.old hb,aQ h.own hb,fun y hy=>(h.oks y hy).keep fun q hq hlt=>⟨hq,Nat.lt_of_lt_of_le hlt hb.size,hb.block q hlt⟩,h.bel.trans (hb.mono h.bel.size),Nat.le_trans h.sz hb.size⟩
theorem VG.set (h:VG bx gr B1 d cx w A n c vs W) {gx:Nat} (hB:gx<B1) (hw:w.heap.size<=gx) (hx:bx≠gx) (hr:gr≠gx) (i:Nat) (u:Value):VG bx gr B1 d cx w A n c vs (W.setCell ⟨gx,i,none⟩ u):=
 ⟨h.kx.far (by exact hx) _,h.kr.far (by exact hr) _,ownsRow_setCell_other h.own (fun e=>by have:=(h.own.lt gx e).1;omega) _,fun y hy=>(h.oks y hy).keep fun q hq hlt=>⟨hq,by simpa using hlt,Below.heap_setCell W _ _ q (by show q≠gx;omega)⟩,h.bel.setCell hw _,by simpa using h.sz⟩
theorem VG.node (h : VG bx gr B1 d cx w A n c vs W) (hlen : vs.length = n) (hn : n ≤ 2) (hr : gr < B1) (hw : w.heap.size ≤ gr) {o K vk pos a : Int} {vb : Nat} {ts : List T} (hts : vs.map (bz d) = ts) (hvb : vb < 18446744073709551616) (hB : w.heap.size ≤ B1)
  (hp:lH W gr 76 #[.int .i64 o,.int .i64 K,.slice A n c,.int .i64 vk,.int .u64 vb,.int .i64 pos,.int .i64 a] W'):eu (fun q=>w.heap.size<=q) (d+1) (.mk o K ts vk vb pos a) [.int .i64 o,.int .i64 K,.slice A n c,.int .i64 vk,.int .u64 vb,.int .i64 pos,.int .i64 a] W'/\Below w.heap.size w W':=by
 subst hlen;subst hts;have keep:∀q,B1<=q->q<W.heap.size->w.heap.size<=q/\q<W'.heap.size/\W'.heap[q]? =W.heap[q]? :=fun q h1 h2=>⟨by omega,by rw[hp.size];exact h2,hp.other q (by omega)⟩
 exact⟨⟨.mk o K A c vs vk vb pos a,rfl,rfl,(rM h.own).keep keep,by omega,hvb,fun y hy=>(h.oks y hy).keep fun q hq hlt=>keep q hq.1 hlt⟩,hp.below _ _ h.bel hw⟩
end
theorem Ot (w:World):(sizeOf 162).run Try.prog w=.ok 2 w:=by
 obtain⟨i,hi,h0,h1,h2⟩:=info_parts (show(Try.prog.info? 162).map (fun i=>(i.zero,i.size,i.bytes))=some (some (.agg #[.int .i64 0,.int .u64 0]),2,16) by kernel_rfl);simp[sizeOf,typeInfo,hi,h1]
theorem DN (nm:Str):∀(l:List (List UInt8)) (i:Nat),0<=fC nm i l->(fC nm i l).toNat<i+l.length
 |[],i,h=>by simp[fC]at h
 |x::l,i,h=>by
  unfold fC at h⊢
  split
  ·simp
  ·rename_i hx
   rw[if_neg hx]at h;have:=DN nm l (i+1) h;simp only[List.length_cons];omega
theorem xU (b B d : Nat) (s : ai) (iv : Value) (m : MS) (op n sc p : Nat) (S1 S2 AS : ByteArray) (A0 : Option Addr) (k cc : Nat) (ts : List T) (K : Int) (hk : ts.length = k) (hk2 : k ≤ 2) (w : World) (h : jg b B s iv m w) (hn : m.items.length ≤ 1000)
  (hnn:n<=9223372036854775807) (hsc:sc<=1000) (h23:op=23->0<=fC S1.toList 0 (s.syms.map (·.toList)))
  (hkind:∀W:World,Below w.heap.size w W->Calls Try.prog 70 #[.pointer (some ⟨b,0,none⟩),.agg #[.int .i64 op,.slice A0 k cc,.int .i64 n,.int .i64 sc,.string S1,.string S2,.int .i64 p]] W fun r W'=>r=.returned (.int .i64 K)/\Below W.heap.size W W')
  (hcall:∀j (hj:j<ts.length),zA5 b AS w A0 j d ts[j]):
  Calls Try.prog 72 #[.pointer (some ⟨b,0,none⟩),.agg #[.int .i64 op,.slice A0 k cc,.int .i64 n,.int .i64 sc,.string S1,.string S2,.int .i64 p],.string AS] w (wG (d+1) (UH s m.items op n sc S1.toList S2.toList K AS.toList ts) w):=by
 have HC:=zH hcall;have HK:=zH hkind;have HKK:=zH hk;have HN:=zH hn;have H23:=zH h23;obtain⟨RES,hres⟩:∃z,UH s m.items op n sc S1.toList S2.toList K AS.toList ts=z:=⟨_,rfl⟩
 rw[hres];have aG:=zH hres;have HM:=zH h;have hbl:=h.bk.lt;clear hcall hkind hk hres h hn h23
 go_enter Try.func72,Try.ntmps72
 have kb:=Bk.new w 118 #[.int .i64 op,.slice A0 k cc,.int .i64 n,.int .i64 sc,.string S1,.string S2,.int .i64 p];have hb0:Below w.heap.size w (w.alloc (.cells #[.int .i64 op,.slice A0 k cc,.int .i64 n,.int .i64 sc,.string S1,.string S2,.int .i64 p] 118)):=zR.alloc zL _;have kr:=Bk.new (w.alloc (.cells #[.int .i64 op,.slice A0 k cc,.int .i64 n,.int .i64 sc,.string S1,.string S2,.int .i64 p] 118)) 76 #[.int .i64 0,.int .i64 0,.slice none 0 0,.int .i64 0,.int .u64 0,.int .i64 0,.int .i64 0];go_upto_region 1 with fail
 obtain⟨bx,hbx⟩:∃z,w.heap.size=z:=⟨_,rfl⟩
 have jw:=zH hbx;have hs1:(w.alloc (.cells #[.int .i64 op,.slice A0 k cc,.int .i64 n,.int .i64 sc,.string S1,.string S2,.int .i64 p] 118)).heap.size=bx+1:=by simp;omega
 have kb1:=kb.alloc (.cells #[.int .i64 0,.int .i64 0,.slice none 0 0,.int .i64 0,.int .u64 0,.int .i64 0,.int .i64 0] 76);have hb1:=hb0.alloc (by simp) (.cells #[.int .i64 0,.int .i64 0,.slice none 0 0,.int .i64 0,.int .u64 0,.int .i64 0,.int .i64 0] 76);rw[hs1]at kr;rw[hbx]at kb1⊢;obtain⟨W,hwo⟩:∃z,(w.alloc (.cells #[.int .i64 op,.slice A0 k cc,.int .i64 n,.int .i64 sc,.string S1,.string S2,.int .i64 p] 118)).alloc (.cells #[.int .i64 0,.int .i64 0,.slice none 0 0,.int .i64 0,.int .u64 0,.int .i64 0,.int .i64 0] 76)=z:=⟨_,rfl⟩
 rw[hwo]at kb1 kr hb1⊢;obtain⟨gr,hgr⟩:∃z,bx+1=z:=⟨_,rfl⟩
 rw[hgr]at kr⊢;have hbb:b<bx:=by omega
 have hgrl:=kr.lt;obtain⟨q0,q1,q2,q3,q4,q5,q6⟩:=zc7 kb1;clear kb hb0 hs1 hwo;have hbe:=hb1
 refine wx (fun k => k == 6) [.is (.pointer (some ⟨bx, 0, none⟩)),
   .is (.int .i64 op),
   .is (.pointer (some ⟨b,0,none⟩)),
   .is (.agg #[.int .i64 op,.slice A0 k cc,.int .i64 n,.int .i64 sc,.string S1,.string S2,.int .i64 p]),
   .is (.int .i64 K),
   .is (.agg #[.int .i64 op,.int .i64 K,.slice none 0 0,.int .i64 0,.int .u64 0,.int .i64 0,.int .i64 0]),
   .st (fun v w=>∃g,v=.pointer (some ⟨g,0,none⟩)/\W.heap.size<=g/\Bk w g 76 #[.int .i64 0,.int .i64 0,.slice none 0 0,.int .i64 0,.int .u64 0,.int .i64 0,.int .i64 0]) (fun _ _ _ hb ⟨g,h1,h0,h2⟩=>⟨g,h1,h0,h2.old hb⟩)] [3,4,5,6] (by kernel_rfl) (by kernel_rfl) (by kernel_rfl)
   (fun C=>.c (px C rfl (fun _ _=>rfl)) <|
   .c (px C rfl (fun _ h=>bW (lJ (bc h q0)))) <|
   .c (px C rfl (fun _ _=>rfl)) <|
   .c (pz [] [4] (by kernel_rfl) fun qK qa wr hB qO qF hK=>?_) <|
   .c (pz [2,3] [] (by kernel_rfl) fun qK qa wr hB qO qF hK=>?_) <|
   .c (pz [1,4] [] (by kernel_rfl) fun qK qa wr hB qO qF hK=>?_) <|
   .c (pf [] [] (by kernel_rfl) fun qK qa wr hB qO qF hK=>?_) <| .nil) ?_
 ·have e4:qa.tmps[4]? =some (.pointer (some ⟨bx,0,none⟩)):=qO.1.trans rfl;clear qO qF;have hq0:=zE hB q0;have hq1:=zE hB q1;have hq2:=zE hB q2;have hq3:=zE hB q3;have hq4:=zE hB q4;have hq5:=zE hB q5;have hq6:=zE hB q6;go_simp;exact hK _ _ zR rfl
 ·have e14:=ay qF.1 rfl rfl;have e15:=ay qF.2.1 rfl rfl;clear qO qF;go_simp
  go_at_call 70
  refine(HK.out wr (hbe.trans (hB.mono hbe.size))).mono ?_;rintro r w9 ⟨rfl,dO⟩;exact hK _ _ dO rfl
 ·have e13:=ay qF.1 rfl rfl;have e16:=ay qF.2.1 rfl rfl;clear qO qF;go_simp;exact hK _ _ zR rfl
 ·clear qO qF;go_simp;exact hK _ _ (zR.alloc zL _) ⟨_,rfl,hB.size,Bk.new _ _ _⟩ ⟨_,rfl,by simp,by simp⟩
 intro qx wr hB hR hS;have r6:∃g,qx 6=.pointer (some ⟨g,0,none⟩)/\W.heap.size<=g/\Bk wr g 76 #[.int .i64 0,.int .i64 0,.slice none 0 0,.int .i64 0,.int .u64 0,.int .i64 0,.int .i64 0]:=hR 6 rfl rfl;clear hR hS;simp only[bJ,List.take_succ_cons,List.take_zero,List.drop_succ_cons,List.drop_zero,List.toList_toArray,List.length_cons,List.length_nil,Act.put,List.setIfInBounds_toArray,List.set_cons_zero,List.set_cons_succ];generalize qx 6=z7 at r6⊢;obtain⟨g7,r6,n7,k7⟩:=r6;subst r6;have hb2:=hbe.trans (hB.mono hbe.size);have kb2:=kb1.old hB;have kr2:=kr.old hB;have hgx:gr<g7:=by omega
 have hwx:w.heap.size<=g7:=by omega
 have hxb:bx<gr:=by omega
 have Xm:=k7.lt;clear q0 q1 q2 q3 q4 q5 q6 kb1 kr hb1 hB hbe n7 hgrl HK;go_upto_region 2 with(first|(refine ae dA rfl _ _ rfl rfl [.int .i64 op,.int .i64 K,.slice none 0 0,.int .i64 0,.int .u64 0,.int .i64 0,.int .i64 0] rfl k7 rfl rfl rfl ?_;intro w0 p0))
 have V0:UI bx gr g7 w0.heap.size d #[.int .i64 op,.slice A0 k cc,.int .i64 n,.int .i64 sc,.string S1,.string S2,.int .i64 p] w op K none 0 0 [] w0:=⟨p0.BQ kb2 (by omega),p0.BQ kr2 (by omega),p0.bk,World.ownsRow_nil _ _ _ _,fun y hy=>absurd hy (by simp),p0.below _ _ hb2 hwx,Nat.le_refl _⟩
 have CQ:g7<w0.heap.size:=p0.bk.lt;have qL:=zH V0;have e1:=V0.kx.cell 1;obtain⟨iN,hN,hN0,hN1,U0⟩:=info_parts FO;clear kb2 kr2 k7 hb2 p0 V0 Xm;go_wp2_with fail
 clear e1
 go_loopw[21] (fun i wr=>∃(j:Nat) (A:Option Addr) (c:Nat) (vs:List au),j<=k/\i=.int .i64 j/\Hid (vs.map (bz d)=ts.take j)/\Hid (UI bx gr g7 w0.heap.size d #[.int .i64 op,.slice A0 k cc,.int .i64 n,.int .i64 sc,.string S1,.string S2,.int .i64 p] w op K A j c vs wr)) (fun i _=>k-(intOf i).toNat)
 case atStart=>exact⟨0,none,0,[],Nat.zero_le _,rfl,zH rfl,qL⟩
 case round=>
  clear qL;obtain⟨j,A,c,vs,hj,rfl,HT,HV⟩:=hrel;obtain⟨W,rfl⟩:∃W:World,W=wr:=⟨_,rfl⟩
  by_cases hlt:j<k
  ·
   have hjl:j<ts.length:=by rw[HKK.out];exact hlt
   obtain⟨g,d0,d1,d2,d3,d4,d5,d6,rfl,hg,hc,hq⟩:=(HC.out j hjl).ex;have x2:W.cell? ⟨g7,2,none⟩=some (.slice A j c):=HV.out.kn.cell 2;have e1:W.cell? ⟨bx,1,none⟩=some (.slice (some ⟨g,0,none⟩) k cc):=HV.out.kx.cell 1;have hcc:∀(q:Nat) (u:Value),[d0,d1,d2,d3,d4,d5,d6][q]? =some u->W.cell? ⟨g,j*7+q,none⟩=some u:=fun q u h=>(aT HV.out.bel g _ hg).trans (hc q u h)
   have r0:W.cell? ⟨g,j*7,none⟩=some d0:=hcc 0 _ rfl;have r1:W.cell? ⟨g,j*7+1,none⟩=some d1:=hcc 1 _ rfl;have r2:W.cell? ⟨g,j*7+2,none⟩=some d2:=hcc 2 _ rfl;have r3:W.cell? ⟨g,j*7+3,none⟩=some d3:=hcc 3 _ rfl;have r4:W.cell? ⟨g,j*7+4,none⟩=some d4:=hcc 4 _ rfl;have r5:W.cell? ⟨g,j*7+5,none⟩=some d5:=hcc 5 _ rfl;have r6:W.cell? ⟨g,j*7+6,none⟩=some d6:=hcc 6 _ rfl;obtain⟨t,ht⟩:∃z,ts[j]=z:=⟨_,rfl⟩
   rw[ht]at hq;have HT2:Hid (ts.take (j+1)=ts.take j++[t]):=zH (by rw[List.take_succ_eq_append_getElem hjl,ht]);have HQ:Hid (∀W':World,Below W.heap.size W W'->Calls Try.prog 72 #[.pointer (some ⟨b,0,none⟩),.agg #[d0,d1,d2,d3,d4,d5,d6],.string AS] W' (wG d t W')):=zH fun W' h=>hq W' (HV.out.bel.trans (h.mono HV.out.bel.size))
   clear hc hq hcc hg HC ht;go_upto_region 5 with fail
   refine wx (fun k => false) [.is (.pointer (some ⟨g7, 2, none⟩)),
     .is (.slice A j c),
     .is (.pointer (some ⟨b,0,none⟩)),
     .is (.pointer (some ⟨bx,1,none⟩)),
     .is (.slice (some ⟨g,0,none⟩) k cc),
     .is (.int .i64 (j:Nat)),
     .is (.pointer (some ⟨g,j*7,none⟩)),
     .is (.agg #[d0,d1,d2,d3,d4,d5,d6]),
     .is (.string AS),
     .st (fun v w=>∃cs:List Value,v=.agg cs.toArray/\eu (fun q=>W.heap.size<=q) d t cs w) (fun _ _ _ hb ⟨cs,h1,h2⟩=>⟨cs,h1,h2.old hb⟩),
     .st (fun v w=>∃(g:Nat) (cs:List Value),v=.slice (some ⟨g,0,none⟩) 1 1/\Bk w g 76 cs.toArray/\eu (fun q=>W.heap.size<=q) d t cs w) (fun _ _ _ hb ⟨g,cs,h1,h2,h3⟩=>⟨g,cs,h1,h2.old hb,h3.old hb⟩)] [6,7,9,10] (by kernel_rfl) (by kernel_rfl) (by kernel_rfl)
     (fun C=>.c (px C rfl (fun _ _=>rfl)) <|
     .c (px C rfl (fun _ h=>bW (mM (bc h x2)))) <|
     .c (px C rfl (fun _ _=>rfl)) <|
     .c (px C rfl (fun _ _=>rfl)) <|
     .c (px C rfl (fun _ h=>bW (XW (bc h e1)))) <|
     .c (px C rfl (fun _ _=>rfl)) <|
     .c (pz [4,5] [] (by kernel_rfl) fun qK qa wr hB qO qF hK=>?_) <|
     .c (pz [6] [] (by kernel_rfl) fun qK qa wr hB qO qF hK=>?_) <|
     .c (px C rfl (fun _ _=>rfl)) <|
     .c (pz [2,7,8] [] (by kernel_rfl) fun qK qa wr hB qO qF hK=>?_) <|
     .c (pz [9] [] (by kernel_rfl) fun qK qa wr hB qO qF hK=>?_) <| .nil) ?_
   ·have e28:=ay qF.1 rfl rfl;have e29:=ay qF.2.1 rfl rfl;clear qO qF;go_simp;exact hK _ _ zR rfl
   ·have e30:=ay qF.1 rfl rfl;clear qO qF;have hr0:=zE hB r0;have hr1:=zE hB r1;have hr2:=zE hB r2;have hr3:=zE hB r3;have hr4:=zE hB r4;have UD:=zE hB r5;have hr6:=zE hB r6;go_simp;exact hK _ _ zR rfl
   ·have e26:=ay qF.1 rfl rfl;have e31:=ay qF.2.1 rfl rfl;have e32:=ay qF.2.2.1 rfl rfl;clear qO qF;go_simp
    go_at_call 72
    refine(HQ.out wr hB).mono ?_;rintro r w9 ⟨cs,rfl,h2,dO⟩;exact hK _ _ dO ⟨cs,rfl,h2.keep fun q hq hlt=>⟨Nat.le_trans hB.size hq,hlt,rfl⟩⟩
   ·obtain⟨u33,e33,r9⟩:=qF.1;obtain⟨cs,h33,hns⟩:=(show∃cs:List Value,u33=.agg cs.toArray/\eu (fun q=>W.heap.size<=q) d t cs wr from r9)
    subst h33;have e33:qa.tmps[33]? =some (.agg cs.toArray):=e33;clear qO qF;obtain⟨c0,c1,c2,c3,c4,c5,c6,rfl,_⟩:=hns.seven;refine lT (.tmp 33) rfl (aK e33) ?_;exact hK _ _ (zR.alloc zL _) ⟨_,_,rfl,Bk.new _ _ _,hns.old (zR.alloc zL _)⟩
   intro qx wr hB hR hS;have r10:(fun v w=>∃(g:Nat) (cs:List Value),v=.slice (some ⟨g,0,none⟩) 1 1/\Bk w g 76 cs.toArray/\eu (fun q=>W.heap.size<=q) d t cs w) (qx 10) wr:=hR 10 rfl rfl;clear hR hS;simp only[bJ,List.take_succ_cons,List.take_zero,List.drop_succ_cons,List.drop_zero,List.toList_toArray,List.length_cons,List.length_nil,Act.put,List.setIfInBounds_toArray,List.set_cons_zero,List.set_cons_succ];generalize qx 10=z34 at r10⊢;obtain⟨g34,cs34,rfl,k34,n34⟩:=r10;obtain⟨nv,rfl,htn,hok⟩:=n34;have hv:=HV.out.old hB;have hz0:=HV.out.sz;have hj2:j<=2:=by omega
   have hsz:=hv.sz;have HF:Hid (∀q,W.heap.size<=q->some q≠(Value.slice A j c).ownBlock):=zH fun q hq e=>by have:=(HV.out.own.lt q e.symm).2;omega
   have hown:=hv.own;have HVV:=zH hv;have xq:=zH hok;have HTN:=zH htn;clear hv hok htn HQ HV x2 e1 r0 r1 r2 r3 r4 r5 r6 hB;go_wp2_with (first|at_builtin;(refine aH rfl _ _ 29 rfl w0.heap.size 76 iN _ 7 72 Try.underlying29 hN hN0 hN1 U0 rfl (by decide) (.slice A j c) j _ rfl hown (g34+1) (some ⟨g34,0,none⟩) 1 1 nv.cells rfl (Rd.bk k34 (Nat.lt_succ_self _)) ?c1 ?c2 ?c3 ?c4 hsz ?_))
   case c1=>exact au.len _
   case c2=>intro u hu;obtain⟨a1,a2,a3,a4,a5,a6,a7,a8,a9⟩:=nv;simp[au.cells]at hu;rcases hu with rfl|rfl|rfl|rfl|rfl|rfl|rfl<;>rfl
   case c3=>unfold maxLen;omega
   case c4=>omega
   intro A9 c9 w9 bI jG hwh;have YU:=HVV.out.kn.grown jG (fun e=>by have:=(hown.lt g7 e.symm).1;omega);have f2:=YU.frozen 2;have x2:w9.cell? ⟨g7,2,none⟩=some (.slice A j c):=YU.cell 2;have J8:=zH (HVV.out.grow (by omega) (by omega) CQ hwx (by omega) (by omega) hz0 HF.out xq.out bI jG hwh);have HT9:Hid ((vs++[nv]).map (bz d)=ts.take (j+1)):=zH (by rw[HT2.out,<-HT.out,List.map_append];show _++[bz d nv]=_;rw[HTN.out]);clear hown bI jG hwh HVV xq HTN HF k34 hsz YU HT HT2;go_wp2
   go_roundw
   case rel=>exact⟨j+1,A9,c9,_,by omega,by go_num,HT9,J8⟩
   case measure=>simp[intOf];omega
  ·obtain rfl:j=k:=by omega
   have hT:=HT.out;rw[List.take_of_length_le (by rw[HKK.out];exact Nat.le_refl _)]at hT;have Jk:=zH hT;have x1:W.cell? ⟨g7,1,none⟩=some (.int .i64 K):=HV.out.kn.cell 1;clear HT hT HC hlt hj;go_upto_region 7 with fail
   have kv:=Bk.new W 162 #[.int .i64 0,.int .u64 0];have hbW:Below W.heap.size W (W.alloc (.cells #[.int .i64 0,.int .u64 0] 162)):=zR.alloc zL _;go_upto_region 8 with(first|(refine ae Ot rfl _ _ rfl rfl [.int .i64 K,.int .u64 0] rfl kv rfl rfl rfl ?_;intro w2 p2))
   have hbv:=p2.below _ _ hbW zL;have hv2:=HV.out.old hbv;have Et:=zH HV.out.m;have Ou:=zH hbv;have UJ:Hid (w.heap.size<=gr):=zH (by have:=jw.out;omega);have YV:Hid (w.heap.size<=w0.heap.size):=zH (by omega);obtain⟨gv,hgv⟩:∃z,W.heap.size=z:=⟨_,rfl⟩
   rw[hgv]at p2⊢;have HGV:=zH hgv;have kv2:=p2.bk;have hgvl:=kv2.lt;have hgvB:w0.heap.size<=gv:=by have:=HV.out.sz;omega
   have iy:=zH hv2;have YW:=zH kv2;have hlen:vs.length=j:=by rw[<-HKK.out,<-Jk.out,List.length_map]
   have HLEN:=zH hlen;have q0:=hv2.kx.cell 0;have v0:=kv2.cell 0;have v1:=kv2.cell 1;clear p2 kv hbW hv2 kv2 x1 HV hlen hgv hbv
   by_cases hc:op<20
   case pos=>
    as_aux_lemma=>
    have l20:(op:Int)<20:=by omega
    have hR:=aG.out;unfold UH at hR;rw[if_pos hc]at hR;have HR:=zH hR;have kr:=iy.out.kr;obtain⟨x0,x1,x2,x3,x4,x5,x6⟩:=zc7 iy.out.kn;clear aG hR hc H23;go_wp2_with (first|(refine ae dA rfl _ _ rfl rfl [.int .i64 op,.int .i64 K,.slice A j c,.int .i64 0,.int .u64 0,.int .i64 0,.int .i64 0] rfl kr rfl rfl rfl ?_;intro w9 p9))
    obtain⟨u0,u1,u2,u3,u4,u5,u6⟩:=zc7 p9.bk;refine bodyPost_ret (v:=.agg #[.int .i64 op,.int .i64 K,.slice A j c,.int .i64 0,.int .u64 0,.int .i64 0,.int .i64 0]) (by simp[results,Try.results72,go_sem,u0,u1,u2,u3,u4,u5,u6]) rfl ?_;obtain rfl:=HR.out;have:=iy.out.m.node HLEN.out hk2 (by omega) (by have:=jw.out;omega) Jk.out (by decide) (by have:=iy.out.bel.size;omega) p9;exact⟨_,rfl,this.1,this.2⟩
   case neg=>
   have l20:¬(op:Int)<20:=by omega
   by_cases hc21:op=21
   case pos=>
    as_aux_lemma=>
    have e21:((op:Int)==21)=true:=by rw[beq_iff_eq];omega
    have l24:(op:Int)<24:=by omega
    have hR:=aG.out;unfold UH at hR;rw[if_neg hc,if_pos hc21]at hR;have HD:=zH (RS n sc hnn hsc w2);have hdl:=VF n sc;obtain⟨⟨db,dk⟩,hdd⟩:∃z,y9 n sc=z:=⟨_,rfl⟩
    rw[hdd]at HD hR hdl;simp only at HD hR hdl;have HR:=zH hR;have HDL:=zH hdl;have q2:=iy.out.kx.cell 2;have q3:=iy.out.kx.cell 3;clear aG hR hc hc21 H23 hdd hdl;go_wp2_with fail
    refine HD.out.mono ?_;rintro r w4 ⟨rfl,hb4⟩;have Ic:=Ou.out.trans (hb4.mono Ou.out.size);have Jl:=YW.out.old hb4;clear HD hb4 iy q0 q2 q3 v0 v1;have f1:=Jl.frozen 1;have c1:=Jl.cell 1;have RU:=Jl.put 1 (.int .u64 (db:Nat));have Ie:Below W.heap.size W (w4.setCell ⟨gv,1,none⟩ (.int .u64 (db:Nat))):=Ic.setCell (by have:=HGV.out;show W.heap.size<=gv;omega) _;have Ig:=Et.out.old Ie;have kr:=Ig.kr;have q0:=Ig.kx.cell 0;have v0:(w4.setCell ⟨gv,1,none⟩ (.int .u64 (db:Nat))).cell? ⟨gv,0,none⟩=some (.int .i64 K):=RU.cell 0;have v1:(w4.setCell ⟨gv,1,none⟩ (.int .u64 (db:Nat))).cell? ⟨gv,1,none⟩=some (.int .u64 (db:Nat)):=RU.cell 1;have HM5:=zH Ig;clear Jl RU Ic Ie Ig Et Ou YW Jk HLEN;go_wp2_with (first|(refine ae dA rfl _ _ rfl rfl [.int .i64 40,.int .i64 K,.slice none 0 0,.int .i64 K,.int .u64 (db:Nat),.int .i64 0,.int .i64 0] rfl kr rfl rfl rfl ?_;intro w9 p9))
    obtain⟨u0,u1,u2,u3,u4,u5,u6⟩:=zc7 p9.bk;refine bodyPost_ret (v:=.agg #[.int .i64 40,.int .i64 K,.slice none 0 0,.int .i64 K,.int .u64 (db:Nat),.int .i64 0,.int .i64 0]) (by simp[results,Try.results72,go_sem,u0,u1,u2,u3,u4,u5,u6]) rfl ?_;obtain rfl:=HR.out;exact⟨_,rfl,eu.leaf _ _ _ _ _ _ _ _ HDL.out d,p9.below _ _ HM5.out.bel UJ.out⟩
   case neg=>
   by_cases KC:op=23
   case pos=>
    have e21:((op:Int)==21)=false:=zB (by omega)
    have e23:((op:Int)==23)=true:=by rw[beq_iff_eq];omega
    have l24:(op:Int)<24:=by omega
    have hR:=aG.out;unfold UH at hR;rw[if_neg hc,if_neg hc21,if_pos KC]at hR;have h0:=H23.out KC;obtain⟨an,MP⟩:=Int.eq_ofNat_of_zero_le h0;have hal:=DN S1.toList (s.syms.map (·.toList)) 0 h0;have hm2:=HM.out.old (Et.out.bel.trans (Ou.out.mono Et.out.bel.size));have hsl:=hm2.CG.slen
    have HAT:Hid (∀W':World,Below w2.heap.size w2 W'->Calls Try.prog 85 #[.slice s.sa s.syms.length s.sc,.string S1] W' fun e w'=>e=.returned (.int .i64 (an:Nat))/\W'=w'):=zH fun W' hW=>by
     have:=Rf s.sa s.sc s.syms S1 b W' ((hm2.old hW).CG.syms) (by unfold maxLen;omega)
     rwa [MP]at this
    rw[MP]at hR hal;have hal2:an<=9223372036854775807:=by simp at hal;omega
    have hR:T.mk 40 K [] K an 0 0=RES:=hR;have HR:=zH hR;have HDL:Hid (an<18446744073709551616):=zH (by omega);have s1:w2.cell? ⟨b,1,none⟩=some (.slice s.sa s.syms.length s.sc):=hm2.bk.cell 1;have q4:w2.cell? ⟨bx,4,none⟩=some (.string S1):=iy.out.kx.cell 4;clear aG hR hc hc21 KC H23 hal h0 MP hsl hm2 HM;go_upto_region 13 with fail
    clear v0 v1 q0
    refine wx (fun k => false) [.is (.pointer (some ⟨b, 0, none⟩)),
      .is (.pointer (some ⟨b,0,none⟩)),
      .is (.pointer (some ⟨b,0,none⟩)),
      .is (.pointer (some ⟨b,1,none⟩)),
      .is (.slice s.sa s.syms.length s.sc),
      .is (.pointer (some ⟨bx,4,none⟩)),
      .is (.string S1)] [] (by kernel_rfl) (by kernel_rfl) (by kernel_rfl)
      (fun C=>.c (px C rfl (fun _ _=>rfl)) <|
      .c (px C rfl (fun _ _=>rfl)) <|
      .c (px C rfl (fun _ _=>rfl)) <|
      .c (px C rfl (fun _ _=>rfl)) <|
      .c (px C rfl (fun _ h=>bW (ld59 (bc h s1)))) <|
      .c (px C rfl (fun _ _=>rfl)) <|
      .c (px C rfl (fun _ h=>bW (Gf (bc h q4)))) <| .nil) ?_
    intro qx wr hB hR hS;clear hR hS;simp only[bJ,List.take_succ_cons,List.take_zero,List.drop_succ_cons,List.drop_zero,List.toList_toArray,List.length_cons,List.length_nil,Act.put,List.setIfInBounds_toArray,List.set_cons_zero,List.set_cons_succ];have Ic:=Ou.out.trans (hB.mono Ou.out.size);have Jl:=YW.out.old hB;have HB:=zH hB;clear iy hB s1 q4;have f1:=Jl.frozen 1;have c1:=Jl.cell 1;go_wp2_with fail
    refine(HAT.out wr HB.out).mono ?_;rintro r w4 ⟨rfl,hw4⟩;subst hw4;have f1:=Jl.frozen 1;have c1:=Jl.cell 1;have RU:=Jl.put 1 (.int .u64 (an:Nat));have Ie:Below W.heap.size W (wr.setCell ⟨gv,1,none⟩ (.int .u64 (an:Nat))):=Ic.setCell (by have:=HGV.out;show W.heap.size<=gv;omega) _;have Ig:=Et.out.old Ie;have kr:=Ig.kr;have q0:=Ig.kx.cell 0;have v0:(wr.setCell ⟨gv,1,none⟩ (.int .u64 (an:Nat))).cell? ⟨gv,0,none⟩=some (.int .i64 K):=RU.cell 0;have v1:(wr.setCell ⟨gv,1,none⟩ (.int .u64 (an:Nat))).cell? ⟨gv,1,none⟩=some (.int .u64 (an:Nat)):=RU.cell 1;have HM5:=zH Ig;clear Jl RU Ic Ie Ig Et Ou YW Jk HLEN;go_wp2_with (first|(refine ae dA rfl _ _ rfl rfl [.int .i64 40,.int .i64 K,.slice none 0 0,.int .i64 K,.int .u64 (an:Nat),.int .i64 0,.int .i64 0] rfl kr rfl rfl rfl ?_;intro w9 p9))
    obtain⟨u0,u1,u2,u3,u4,u5,u6⟩:=zc7 p9.bk;refine bodyPost_ret (v:=.agg #[.int .i64 40,.int .i64 K,.slice none 0 0,.int .i64 K,.int .u64 (an:Nat),.int .i64 0,.int .i64 0]) (by simp[results,Try.results72,go_sem,u0,u1,u2,u3,u4,u5,u6]) rfl ?_;obtain rfl:=HR.out;exact⟨_,rfl,eu.leaf _ _ _ _ _ _ _ _ HDL.out d,p9.below _ _ HM5.out.bel UJ.out⟩
   case neg=>
   by_cases hc24:op<24
   case pos=>
    as_aux_lemma=>
    have e21:((op:Int)==21)=false:=zB (by omega)
    have e23:((op:Int)==23)=false:=zB (by omega)
    have l24:(op:Int)<24:=by omega
    have hR:=aG.out;unfold UH at hR;rw[if_neg hc,if_neg hc21,if_neg KC,if_pos hc24]at hR;have HR:=zH hR;have HDL:Hid (n<18446744073709551616):=zH (by omega);have q2:=iy.out.kx.cell 2;have Ic:=Ou.out;have Jl:=YW.out;clear aG hR hc hc21 KC hc24 H23;have f1:=Jl.frozen 1;have c1:=Jl.cell 1;have RU:=Jl.put 1 (.int .u64 (n:Nat));have Ie:Below W.heap.size W (w2.setCell ⟨gv,1,none⟩ (.int .u64 (n:Nat))):=Ic.setCell (by have:=HGV.out;show W.heap.size<=gv;omega) _;have Ig:=Et.out.old Ie;have kr:=Ig.kr;have q0:=Ig.kx.cell 0;have v0:(w2.setCell ⟨gv,1,none⟩ (.int .u64 (n:Nat))).cell? ⟨gv,0,none⟩=some (.int .i64 K):=RU.cell 0;have v1:(w2.setCell ⟨gv,1,none⟩ (.int .u64 (n:Nat))).cell? ⟨gv,1,none⟩=some (.int .u64 (n:Nat)):=RU.cell 1;have HM5:=zH Ig;clear Jl RU Ic Ie Ig Et Ou YW Jk HLEN;go_wp2_with (first|(refine ae dA rfl _ _ rfl rfl [.int .i64 40,.int .i64 K,.slice none 0 0,.int .i64 K,.int .u64 (n:Nat),.int .i64 0,.int .i64 0] rfl kr rfl rfl rfl ?_;intro w9 p9))
    obtain⟨u0,u1,u2,u3,u4,u5,u6⟩:=zc7 p9.bk;refine bodyPost_ret (v:=.agg #[.int .i64 40,.int .i64 K,.slice none 0 0,.int .i64 K,.int .u64 (n:Nat),.int .i64 0,.int .i64 0]) (by simp[results,Try.results72,go_sem,u0,u1,u2,u3,u4,u5,u6]) rfl ?_;obtain rfl:=HR.out;exact⟨_,rfl,eu.leaf _ _ _ _ _ _ _ _ HDL.out d,p9.below _ _ HM5.out.bel UJ.out⟩
   case neg=>
   have e21:((op:Int)==21)=false:=zB (by omega)
   have e23:((op:Int)==23)=false:=zB (by omega)
   have l24:¬(op:Int)<24:=by omega
   have hm2:=HM.out.old (Et.out.bel.trans (Ou.out.mono Et.out.bel.size));have hF:=vZ b B s iv m w2 S1 hm2 HN.out;obtain⟨⟨⟨nm,xb,xp,xo,xf,xk⟩,fb⟩,hx⟩:∃z,dV S1.toList m.items=z:=⟨_,rfl⟩
   have hR:=aG.out;unfold UH at hR;rw[if_neg hc,if_neg hc21,if_neg KC,if_neg hc24,hx]at hR;rw[hx]at hF;simp only[bP.cells]at hF hR;obtain⟨Ih,YX⟩:∃z,(if S2.toList≠iH then bM s xk S2.toList else -1)=z:=⟨_,rfl⟩
   rw[YX]at hR;have RV:=zH YX;obtain⟨M,hM⟩:∃M,bytes nm=M:=⟨_,rfl⟩
   rw[hM]at hF;have zC:=zH hF;have HR:=zH hR;have HAT:Hid (∀(W':World),Below w.heap.size w W'->Calls Try.prog 69 #[.agg #[.slice s.ta s.types.length s.tc,.slice s.sa s.syms.length s.sc],.int .i64 xk,.string S2] W' fun e w'=>e=.returned (.int .i64 (bM s xk S2.toList))/\Below W'.heap.size W' w'):=zH fun W' hW=>uN s xk S2 W' ((HM.out.old hW).CG.more (Nat.le_of_lt (HM.out.old hW).bk.lt))
   have q4:=iy.out.kx.cell 4;clear aG hR hF hx hM YX hm2 H23 hc hc21 KC v0 v1 YW;go_wp2_with fail
   refine zC.out.mono ?_;rintro r w4 ⟨rfl,hb4⟩;clear zC q0 q4;go_upto_region 19 with(first|(refine ae gm rfl _ _ rfl rfl [.string M,.int .i64 xb,.int .i64 xp,.int .i64 xo,.int .i64 xf,.int .i64 xk] rfl (Bk.new w4 _ _) rfl rfl rfl ?_;intro w5 p5;go_frame))
   have hb5:Below w2.heap.size w2 w5:=p5.below _ _ (hb4.alloc hb4.size _) hb4.size;have Ig:=Et.out.old (Ou.out.trans (hb5.mono Ou.out.size));have kn5:=iy.out.kn.old hb5;have ki5:=p5.bk;have hgi2:=hb4.size;have hg72:g7<w2.heap.size:=iy.out.kn.lt;obtain⟨gi,hgi⟩:∃z,w4.heap.size=z:=⟨_,rfl⟩
   rw[hgi]at ki5 hgi2⊢;have EL:bx≠g7:=by omega
   have EM:gr≠g7:=by omega
   have f5:=kn5.frozen 5;have c5:w5.cell? ⟨g7,5,none⟩=some (.int .i64 0):=kn5.cell 5;have y3:w5.cell? ⟨gi,3,none⟩=some (.int .i64 xo):=ki5.cell 3;have YY:Bk (w5.setCell ⟨g7,5,none⟩ (.int .i64 xo)) g7 76 #[.int .i64 op,.int .i64 K,.slice A j c,.int .i64 0,.int .u64 0,.int .i64 xo,.int .i64 0]:=kn5.put 5 _;have YZ:=Ig.set CQ hwx EL EM 5 (.int .i64 xo);have ki6:=ki5.far (p:=⟨g7,5,none⟩) (by show gi≠g7;omega) (.int .i64 xo);clear p5 hb4 hb5 Ig kn5 ki5 hgi Et Ou iy;go_upto_region 20 with fail
   generalize w5.setCell ⟨g7,5,none⟩ (.int .i64 xo)=w6 at YY YZ ki6⊢;clear f5 c5 y3;have q0:=YZ.kx.cell 0;have HM6:=zH YZ
   by_cases hc25:op=25
   case pos=>
    as_aux_lemma=>
    have e25:((op:Int) !=25)=false:=by rw[bne_eq_false_iff_eq];omega
    have e24:((op:Int)==24)=false:=zB (by omega)
    have hR:=HR.out;rw[if_pos hc25]at hR;have HR2:=zH hR;have kr:=YZ.kr;obtain⟨x0,x1,x2,x3,x4,x5,x6⟩:=zc7 YY;clear HR hR hc25 hc24 YY ki6 YZ HAT RV HM;go_wp2_with (first|(refine ae dA rfl _ _ rfl rfl [.int .i64 op,.int .i64 K,.slice A j c,.int .i64 0,.int .u64 0,.int .i64 xo,.int .i64 0] rfl kr rfl rfl rfl ?_;intro w9 p9))
    obtain⟨u0,u1,u2,u3,u4,u5,u6⟩:=zc7 p9.bk;refine bodyPost_ret (v:=.agg #[.int .i64 op,.int .i64 K,.slice A j c,.int .i64 0,.int .u64 0,.int .i64 xo,.int .i64 0]) (by simp[results,Try.results72,go_sem,u0,u1,u2,u3,u4,u5,u6]) rfl ?_;obtain rfl:=HR2.out;have:=HM6.out.node HLEN.out hk2 (by omega) UJ.out Jk.out (by decide) YV.out p9;exact⟨_,rfl,this.1,this.2⟩
   case neg=>
   have e25:((op:Int) !=25)=true:=by rw[bne_iff_ne];omega
   have hR:=HR.out;rw[if_neg hc25]at hR;have HR2:=zH hR;have f6:=YY.frozen 6;have c6:w6.cell? ⟨g7,6,none⟩=some (.int .i64 0):=YY.cell 6;have kn7:Bk (w6.setCell ⟨g7,6,none⟩ (.int .i64 (-1))) g7 76 #[.int .i64 op,.int .i64 K,.slice A j c,.int .i64 0,.int .u64 0,.int .i64 xo,.int .i64 (-1)]:=YY.put 6 _;have UK:=YZ.set CQ hwx EL EM 6 (.int .i64 (-1));have ki7:=ki6.far (p:=⟨g7,6,none⟩) (by show gi≠g7;omega) (.int .i64 (-1));clear HR hR hc25 YY YZ ki6;go_upto_region 22 with fail
   generalize w6.setCell ⟨g7,6,none⟩ (.int .i64 (-1))=w7 at kn7 UK ki7⊢;clear f6 c6 q0 HM6;have q5:=UK.kx.cell 5;obtain⟨tm,FC⟩:∃z,(S2.toList==[84,73,77,69])=z:=⟨_,rfl⟩
   have htn:(S2.toList !=[84,73,77,69])= !tm:=by rw[bne,FC]
   cases tm
   case true=>
    have hat:Ih= -1:=by rw[<-RV.out,if_neg (by rw[show S2.toList=iH from eq_of_beq FC];simp)]
    subst hat;have htn:(S2.toList !=[84,73,77,69])=false:=htn;clear RV HAT;go_upto_region 24 with fail
    clear htn FC q5;have VH:=zH UK;have Ov:=zH kn7;have q0:=UK.kx.cell 0;clear UK kn7
    by_cases wH:op=24
    case pos=>
     have e24:((op:Int)==24)=true:=by rw[beq_iff_eq];omega
     have hR:=HR2.out;rw[if_pos wH]at hR;have HR3:=zH hR;have f0:=Ov.out.frozen 0;have c0:w7.cell? ⟨g7,0,none⟩=some (.int .i64 op):=Ov.out.cell 0;have KD:Bk (w7.setCell ⟨g7,0,none⟩ (.int .i64 42)) g7 76 #[.int .i64 42,.int .i64 K,.slice A j c,.int .i64 0,.int .u64 0,.int .i64 xo,.int .i64 (-1)]:=Ov.out.put 0 _;have KE:=VH.out.set CQ hwx EL EM 0 (.int .i64 42);clear hR HR2 wH VH Ov;go_upto_region 26 with fail
     generalize w7.setCell ⟨g7,0,none⟩ (.int .i64 42)=wa at KD KE⊢;clear f0 c0 q0 e24;have q4:=KE.kx.cell 4;have VI:=zH KE
     by_cases hnm:S1.toList=AS.toList
     case pos=>
      as_aux_lemma=>
      have enm:(S1.toList==AS.toList)=true:=by rw[beq_iff_eq];exact hnm
      have hR:=HR3.out;rw[if_pos hnm]at hR;have HR4:=zH hR;have f0:=KD.frozen 0;have c0:wa.cell? ⟨g7,0,none⟩=some (.int .i64 42):=KD.cell 0;have VJ:Bk (wa.setCell ⟨g7,0,none⟩ (.int .i64 41)) g7 76 #[.int .i64 41,.int .i64 K,.slice A j c,.int .i64 0,.int .u64 0,.int .i64 xo,.int .i64 (-1)]:=KD.put 0 _;have hmb:=KE.set CQ hwx EL EM 0 (.int .i64 41);have f5:=VJ.frozen 5;have c5:(wa.setCell ⟨g7,0,none⟩ (.int .i64 41)).cell? ⟨g7,5,none⟩=some (.int .i64 xo):=VJ.cell 5;have Y0:Bk ((wa.setCell ⟨g7,0,none⟩ (.int .i64 41)).setCell ⟨g7,5,none⟩ (.int .i64 0)) g7 76 #[.int .i64 41,.int .i64 K,.slice A j c,.int .i64 0,.int .u64 0,.int .i64 0,.int .i64 (-1)]:=VJ.put 5 _;have hmc:=hmb.set CQ hwx EL EM 5 (.int .i64 0);have HMC:=zH hmc;clear hR HR3 hnm KE VI KD hmb VJ;go_upto_region 28 with fail
      generalize(wa.setCell ⟨g7,0,none⟩ (.int .i64 41)).setCell ⟨g7,5,none⟩ (.int .i64 0)=wc at Y0 hmc HMC⊢;clear f0 c0 f5 c5 q4 enm;have kr:=hmc.kr;obtain⟨x0,x1,x2,x3,x4,x5,x6⟩:=zc7 Y0;clear Y0 hmc;go_wp2_with (first|(refine ae dA rfl _ _ rfl rfl [.int .i64 41,.int .i64 K,.slice A j c,.int .i64 0,.int .u64 0,.int .i64 0,.int .i64 (-1)] rfl kr rfl rfl rfl ?_;intro w9 p9))
      obtain⟨u0,u1,u2,u3,u4,u5,u6⟩:=zc7 p9.bk;refine bodyPost_ret (v:=.agg #[.int .i64 41,.int .i64 K,.slice A j c,.int .i64 0,.int .u64 0,.int .i64 0,.int .i64 (-1)]) (by simp[results,Try.results72,go_sem,u0,u1,u2,u3,u4,u5,u6]) rfl ?_;obtain rfl:=HR4.out;have:=HMC.out.node HLEN.out hk2 (by omega) UJ.out Jk.out (by decide) YV.out p9;exact⟨_,rfl,this.1,this.2⟩
     case neg=>
      as_aux_lemma=>
      have enm:(S1.toList==AS.toList)=false:=by rw[beq_eq_false_iff_ne];exact hnm
      have hR:=HR3.out;rw[if_neg hnm]at hR;have HR4:=zH hR;have kr:=KE.kr;obtain⟨x0,x1,x2,x3,x4,x5,x6⟩:=zc7 KD;clear hR HR3 hnm KE KD;go_wp2_with (first|(refine ae dA rfl _ _ rfl rfl [.int .i64 42,.int .i64 K,.slice A j c,.int .i64 0,.int .u64 0,.int .i64 xo,.int .i64 (-1)] rfl kr rfl rfl rfl ?_;intro w9 p9))
      obtain⟨u0,u1,u2,u3,u4,u5,u6⟩:=zc7 p9.bk;refine bodyPost_ret (v:=.agg #[.int .i64 42,.int .i64 K,.slice A j c,.int .i64 0,.int .u64 0,.int .i64 xo,.int .i64 (-1)]) (by simp[results,Try.results72,go_sem,u0,u1,u2,u3,u4,u5,u6]) rfl ?_;obtain rfl:=HR4.out;have:=VI.out.node HLEN.out hk2 (by omega) UJ.out Jk.out (by decide) YV.out p9;exact⟨_,rfl,this.1,this.2⟩
    case neg=>
     as_aux_lemma=>
     have e24:((op:Int)==24)=false:=zB (by omega)
     have hR:=HR2.out;rw[if_neg wH]at hR;have HR3:=zH hR;have kr:=VH.out.kr;have knz:=Ov.out;obtain⟨x0,x1,x2,x3,x4,x5,x6⟩:=zc7 knz;clear hR HR2 wH Ov knz;go_wp2_with (first|(refine ae dA rfl _ _ rfl rfl [.int .i64 op,.int .i64 K,.slice A j c,.int .i64 0,.int .u64 0,.int .i64 xo,.int .i64 (-1)] rfl kr rfl rfl rfl ?_;intro w9 p9))
     obtain⟨u0,u1,u2,u3,u4,u5,u6⟩:=zc7 p9.bk;refine bodyPost_ret (v:=.agg #[.int .i64 op,.int .i64 K,.slice A j c,.int .i64 0,.int .u64 0,.int .i64 xo,.int .i64 (-1)]) (by simp[results,Try.results72,go_sem,u0,u1,u2,u3,u4,u5,u6]) rfl ?_;obtain rfl:=HR3.out;have:=VH.out.node HLEN.out hk2 (by omega) UJ.out Jk.out (by decide) YV.out p9;exact⟨_,rfl,this.1,this.2⟩
   case false=>
    have hat:Ih=bM s xk S2.toList:=by
     rw[<-RV.out,if_pos];intro he;rw[he]at FC;exact absurd FC (by decide)
    have htn:(S2.toList !=[84,73,77,69])=true:=htn;obtain⟨HATA⟩:Nonempty (Hid (Ih=bM s xk S2.toList)):=⟨zH hat⟩
    have HAT2:Hid (∀(W':World),Below w.heap.size w W'->Calls Try.prog 69 #[.agg #[.slice s.ta s.types.length s.tc,.slice s.sa s.syms.length s.sc],.int .i64 xk,.string S2] W' fun e w'=>e=.returned (.int .i64 Ih)/\Below W'.heap.size W' w'):=zH fun W' h=>by rw[hat];exact HAT.out W' h
    have s0:w7.cell? ⟨b,0,none⟩=some (.slice s.ta s.types.length s.tc):=(HM.out.old UK.bel).bk.cell 0;have s1:w7.cell? ⟨b,1,none⟩=some (.slice s.sa s.syms.length s.sc):=(HM.out.old UK.bel).bk.cell 1;have y5:w7.cell? ⟨gi,5,none⟩=some (.int .i64 xk):=ki7.cell 5;have x5:w7.cell? ⟨bx,5,none⟩=some (.string S2):=UK.kx.cell 5;clear RV HAT hat HATA;go_upto_region 23 with fail
    clear htn FC q5
    refine wx (fun k => false) [.is (.pointer (some ⟨b, 0, none⟩)),
      .is (.pointer (some ⟨b,0,none⟩)),
      .is (.pointer (some ⟨b,0,none⟩)),
      .is (.agg #[.slice s.ta s.types.length s.tc,.slice s.sa s.syms.length s.sc]),
      .is (.pointer (some ⟨gi,5,none⟩)),
      .is (.int .i64 xk),
      .is (.pointer (some ⟨bx,5,none⟩)),
      .is (.string S2)] [3] (by kernel_rfl) (by kernel_rfl) (by kernel_rfl)
      (fun C=>.c (px C rfl (fun _ _=>rfl)) <|
      .c (px C rfl (fun _ _=>rfl)) <|
      .c (px C rfl (fun _ _=>rfl)) <|
      .c (pz [2] [] (by kernel_rfl) fun qK qa wr hB qO qF hK=>?_) <|
      .c (px C rfl (fun _ _=>rfl)) <|
      .c (px C rfl (fun _ h=>bW (lJ (bc h y5)))) <|
      .c (px C rfl (fun _ _=>rfl)) <|
      .c (px C rfl (fun _ h=>bW (Gf (bc h x5)))) <| .nil) ?_
    ·have e107:=ay qF.1 rfl rfl;clear qO qF;have hs0:=zE hB s0;have hs1:=zE hB s1;go_simp;exact hK _ _ zR rfl
    intro qx wr hB hR hS;clear hR hS;simp only[bJ,List.take_succ_cons,List.take_zero,List.drop_succ_cons,List.drop_zero,List.toList_toArray,List.length_cons,List.length_nil,Act.put,List.setIfInBounds_toArray,List.set_cons_zero,List.set_cons_succ];have kn8:=kn7.old hB;have hm8:=UK.old hB;clear hB s0 s1 y5 x5 kn7 UK ki7;have HM8:=zH hm8;have HKN8:=zH kn8;clear kn8 hm8 HM;go_wp2_with fail
    refine(HAT2.out wr HM8.out.bel).mono ?_;rintro r w8 ⟨rfl,hb8⟩;have kn8:=HKN8.out.old hb8;have hm8:=HM8.out.old hb8;have f6:=kn8.frozen 6;have c6:w8.cell? ⟨g7,6,none⟩=some (.int .i64 (-1)):=kn8.cell 6;have kn9:Bk (w8.setCell ⟨g7,6,none⟩ (.int .i64 Ih)) g7 76 #[.int .i64 op,.int .i64 K,.slice A j c,.int .i64 0,.int .u64 0,.int .i64 xo,.int .i64 Ih]:=kn8.put 6 _;have hm9:=hm8.set CQ hwx EL EM 6 (.int .i64 Ih);clear HAT2 hb8 HM8 HKN8 kn8 hm8;go_upto_region 24 with fail
    generalize w8.setCell ⟨g7,6,none⟩ (.int .i64 Ih)=w9x at kn9 hm9⊢;clear f6 c6;have VH:=zH hm9;have Ov:=zH kn9;have q0:=hm9.kx.cell 0;clear hm9 kn9
    by_cases wH:op=24
    case pos=>
     have e24:((op:Int)==24)=true:=by rw[beq_iff_eq];omega
     have hR:=HR2.out;rw[if_pos wH]at hR;have HR3:=zH hR;have f0:=Ov.out.frozen 0;have c0:w9x.cell? ⟨g7,0,none⟩=some (.int .i64 op):=Ov.out.cell 0;have KD:Bk (w9x.setCell ⟨g7,0,none⟩ (.int .i64 42)) g7 76 #[.int .i64 42,.int .i64 K,.slice A j c,.int .i64 0,.int .u64 0,.int .i64 xo,.int .i64 (Ih)]:=Ov.out.put 0 _;have KE:=VH.out.set CQ hwx EL EM 0 (.int .i64 42);clear hR HR2 wH VH Ov;go_upto_region 26 with fail
     generalize w9x.setCell ⟨g7,0,none⟩ (.int .i64 42)=wa at KD KE⊢;clear f0 c0 q0 e24;have q4:=KE.kx.cell 4;have VI:=zH KE
     by_cases hnm:S1.toList=AS.toList
     case pos=>
      as_aux_lemma=>
      have enm:(S1.toList==AS.toList)=true:=by rw[beq_iff_eq];exact hnm
      have hR:=HR3.out;rw[if_pos hnm]at hR;have HR4:=zH hR;have f0:=KD.frozen 0;have c0:wa.cell? ⟨g7,0,none⟩=some (.int .i64 42):=KD.cell 0;have VJ:Bk (wa.setCell ⟨g7,0,none⟩ (.int .i64 41)) g7 76 #[.int .i64 41,.int .i64 K,.slice A j c,.int .i64 0,.int .u64 0,.int .i64 xo,.int .i64 (Ih)]:=KD.put 0 _;have hmb:=KE.set CQ hwx EL EM 0 (.int .i64 41);have f5:=VJ.frozen 5;have c5:(wa.setCell ⟨g7,0,none⟩ (.int .i64 41)).cell? ⟨g7,5,none⟩=some (.int .i64 xo):=VJ.cell 5;have Y0:Bk ((wa.setCell ⟨g7,0,none⟩ (.int .i64 41)).setCell ⟨g7,5,none⟩ (.int .i64 0)) g7 76 #[.int .i64 41,.int .i64 K,.slice A j c,.int .i64 0,.int .u64 0,.int .i64 0,.int .i64 (Ih)]:=VJ.put 5 _;have hmc:=hmb.set CQ hwx EL EM 5 (.int .i64 0);have HMC:=zH hmc;clear hR HR3 hnm KE VI KD hmb VJ;go_upto_region 28 with fail
      generalize(wa.setCell ⟨g7,0,none⟩ (.int .i64 41)).setCell ⟨g7,5,none⟩ (.int .i64 0)=wc at Y0 hmc HMC⊢;clear f0 c0 f5 c5 q4 enm;have kr:=hmc.kr;obtain⟨x0,x1,x2,x3,x4,x5,x6⟩:=zc7 Y0;clear Y0 hmc;go_wp2_with (first|(refine ae dA rfl _ _ rfl rfl [.int .i64 41,.int .i64 K,.slice A j c,.int .i64 0,.int .u64 0,.int .i64 0,.int .i64 (Ih)] rfl kr rfl rfl rfl ?_;intro w9 p9))
      obtain⟨u0,u1,u2,u3,u4,u5,u6⟩:=zc7 p9.bk;refine bodyPost_ret (v:=.agg #[.int .i64 41,.int .i64 K,.slice A j c,.int .i64 0,.int .u64 0,.int .i64 0,.int .i64 (Ih)]) (by simp[results,Try.results72,go_sem,u0,u1,u2,u3,u4,u5,u6]) rfl ?_;obtain rfl:=HR4.out;have:=HMC.out.node HLEN.out hk2 (by omega) UJ.out Jk.out (by decide) YV.out p9;exact⟨_,rfl,this.1,this.2⟩
     case neg=>
      as_aux_lemma=>
      have enm:(S1.toList==AS.toList)=false:=by rw[beq_eq_false_iff_ne];exact hnm
      have hR:=HR3.out;rw[if_neg hnm]at hR;have HR4:=zH hR;have kr:=KE.kr;obtain⟨x0,x1,x2,x3,x4,x5,x6⟩:=zc7 KD;clear hR HR3 hnm KE KD;go_wp2_with (first|(refine ae dA rfl _ _ rfl rfl [.int .i64 42,.int .i64 K,.slice A j c,.int .i64 0,.int .u64 0,.int .i64 xo,.int .i64 (Ih)] rfl kr rfl rfl rfl ?_;intro w9 p9))
      obtain⟨u0,u1,u2,u3,u4,u5,u6⟩:=zc7 p9.bk;refine bodyPost_ret (v:=.agg #[.int .i64 42,.int .i64 K,.slice A j c,.int .i64 0,.int .u64 0,.int .i64 xo,.int .i64 (Ih)]) (by simp[results,Try.results72,go_sem,u0,u1,u2,u3,u4,u5,u6]) rfl ?_;obtain rfl:=HR4.out;have:=VI.out.node HLEN.out hk2 (by omega) UJ.out Jk.out (by decide) YV.out p9;exact⟨_,rfl,this.1,this.2⟩
    case neg=>
     as_aux_lemma=>
     have e24:((op:Int)==24)=false:=zB (by omega)
     have hR:=HR2.out;rw[if_neg wH]at hR;have HR3:=zH hR;have kr:=VH.out.kr;have knz:=Ov.out;obtain⟨x0,x1,x2,x3,x4,x5,x6⟩:=zc7 knz;clear hR HR2 wH Ov knz;go_wp2_with (first|(refine ae dA rfl _ _ rfl rfl [.int .i64 op,.int .i64 K,.slice A j c,.int .i64 0,.int .u64 0,.int .i64 xo,.int .i64 (Ih)] rfl kr rfl rfl rfl ?_;intro w9 p9))
     obtain⟨u0,u1,u2,u3,u4,u5,u6⟩:=zc7 p9.bk;refine bodyPost_ret (v:=.agg #[.int .i64 op,.int .i64 K,.slice A j c,.int .i64 0,.int .u64 0,.int .i64 xo,.int .i64 (Ih)]) (by simp[results,Try.results72,go_sem,u0,u1,u2,u3,u4,u5,u6]) rfl ?_;obtain rfl:=HR3.out;have:=VH.out.node HLEN.out hk2 (by omega) UJ.out Jk.out (by decide) YV.out p9;exact⟨_,rfl,this.1,this.2⟩
end Go.Proofs.Ytbjnhllkdilpfaa
namespace Go.Proofs.Ytbjnhllkdilpfaa
open Go.RowKit
set_option linter.unusedSimpArgs false
set_option linter.unusedVariables false
set_option maxRecDepth 10000
def Ox:ax->Prop
 |.leaf _ n sc _ _ _=>n<=9223372036854775807/\sc<=1000
 |.un _ x _=>Ox x
 |.bin _ x y _=>Ox x/\Ox y
def Ii (s:ai) (m:MS):ax->Prop
 |.leaf op n sc nm a p=>(dW s (.leaf op n sc nm a p) m).2=m
 |.un op x p=>(dW s (.un op x p) m).2=m/\Ii s m x
 |.bin op x y p=>(dW s (.bin op x y p) m).2=m/\Ii s m x/\Ii s m y
def opsE:ax->Prop
 |.leaf ..=>True
 |.un op x _=>op≠23/\opsE x
 |.bin op x y _=>op≠23/\opsE x/\opsE y
def zg:ax->Nat
 |.leaf ..=>1
 |.un _ x _=>zg x+1
 |.bin _ x y _=>max (zg x) (zg y)+1
theorem eu.upTo {S:Nat->Prop} {d d':Nat} {t:T} {cs:List Value} {w:World} (hd:d<=d') (h:eu S d t cs w):eu S d' t cs w:=by
 obtain⟨k,rfl⟩:=Nat.exists_eq_add_of_le hd
 induction k with
 |zero=>exact h
 |succ k ih=>exact(ih (by omega)).up
theorem wG.upTo {d d':Nat} {t:T} {W:World} {r:Ending} {W':World} (hd:d<=d'):wG d t W r W'->wG d' t W r W':=fun⟨cs,h1,h2,h3⟩=>⟨cs,h1,h2.upTo hd,h3⟩
theorem gW.below {b B:Nat} {s:ai} {iv:Value} {m:MS} {W W':World} (h:jg b B s iv m W) (hs:gW b B s iv m W W'):Below W.heap.size W W':=
 ⟨hs.grown.os,hs.grown.tape,hs.grown.output,hs.grown.size,fun k hk=>by
  by_cases hkb:k=b
  ·subst hkb;exact hs.st.bk.trans h.bk.symm
  ·exact hs.grown.block k hk (aA hkb)⟩
theorem VK {s:ai} {m:MS} {op:Nat} {nm a:Str} {p:Nat} (h0:m.err=0) (h:(mg s op nm a p [] m).2=m):op=23->0<=fC nm 0 (s.syms.map (·.toList)):=by
 intro h23;subst h23;unfold mg at h;rw[if_neg (by simp[h0])]at h
 by_cases hlt:fC nm 0 (s.syms.map (·.toList))<0
 ·simp only[reduceCtorEq,if_pos hlt,Nat.reduceEqDiff,↓reduceIte]at h;have:=congrArg MS.err h;simp[dC,h0]at this
 ·omega
theorem wI {P : Nat → Prop} (b B : Nat) (s : ai) (iv : Value) (m : MS) (AS : ByteArray) (hbB : b < B) (Jj : ∀ g, P g → g ≠ b) (h0 : m.err = 0) (hn : m.items.length ≤ 1000) : ∀ (e : ax) (cs : List Value) (w : World), jg b B s iv m w → kZ P w e cs → Ox e → Ii s m e → opsE e →
  Calls Try.prog 72 #[.pointer (some ⟨b,0,none⟩),.agg cs.toArray,.string AS] w (wG (zg e) (MO s m AS.toList e) w)
 |.leaf op n sc nm a p,cs,w,hm,h,hnum,hf,_=>by
  obtain rfl:cs=gK op n sc nm a p:=h
  have:=xU b B 0 s iv m op n sc p (bytes nm) (bytes a) AS none 0 0 [] (dW s (.leaf op n sc nm a p) m).1 rfl (by omega) w hm hn hnum.1 hnum.2 (by rw[aF];exact VK h0 hf) (fun W hW=>by
   refine(jZ (P:=P) b B s iv hbB Jj (.leaf op n sc nm a p) _ m W hn (hm.old hW) rfl).mono ?_;rintro r w' ⟨rfl,hs⟩;rw[hf]at hs
   exact⟨rfl,gW.below (hm.old hW) hs⟩) (fun j hj=>absurd hj (by simp))
  rw[aF,aF]at this;exact this
 |.un op x p,cs,w,hm,h,hnum,hf,ho=>by
  obtain⟨g,xs,rfl,hP,hk,hx⟩:=id h;obtain⟨y0,y1,y2,y3,y4,y5,y6,rfl,hy⟩:=hx.seven
  have:=xU b B (zg x) s iv m op 0 0 p ⟨#[]⟩ ⟨#[]⟩ AS (some ⟨g,0,none⟩) 1 1 [MO s m AS.toList x] (dW s (.un op x p) m).1 rfl (by omega) w hm hn (by omega) (by omega) (fun h=>by have:=ho.1;omega) (fun W hW=>by
   refine(jZ (P:=P) b B s iv hbB Jj (.un op x p) _ m W hn (hm.old hW) (h.old hW)).mono ?_;rintro r w' ⟨rfl,hs⟩;rw[hf.1]at hs
   exact⟨rfl,gW.below (hm.old hW) hs⟩) (fun j hj=>by
   match j,hj with
   |0,_=>exact⟨⟨g,y0,y1,y2,y3,y4,y5,y6,rfl,hk.lt,fun q u hu=>by rw[hk.cell];simpa using hu,fun W hW=>wI b B s iv m AS hbB Jj h0 hn x _ W (hm.old hW) (hx.old hW) hnum hf.2 ho.2⟩⟩)
  rw[show(⟨#[]⟩:ByteArray).toList=[] by rw[ByteArray.toList_eq]]at this;exact this
 |.bin op x y p,cs,w,hm,h,hnum,hf,ho=>by
  obtain⟨g,xs,ys,rfl,hP,hk,hx,hy⟩:=id h;obtain⟨x0,x1,x2,x3,x4,x5,x6,rfl,_⟩:=hx.seven;obtain⟨y0,y1,y2,y3,y4,y5,y6,rfl,_⟩:=hy.seven
  have:=xU b B (max (zg x) (zg y)) s iv m op 0 0 p ⟨#[]⟩ ⟨#[]⟩ AS (some ⟨g,0,none⟩) 2 2 [MO s m AS.toList x,MO s m AS.toList y] (dW s (.bin op x y p) m).1 rfl (by omega) w hm hn (by omega) (by omega) (fun h=>by have:=ho.1;omega) (fun W hW=>by
   refine(jZ (P:=P) b B s iv hbB Jj (.bin op x y p) _ m W hn (hm.old hW) (h.old hW)).mono ?_;rintro r w' ⟨rfl,hs⟩;rw[hf.1]at hs
   exact⟨rfl,gW.below (hm.old hW) hs⟩) (fun j hj=>by
   match j,hj with
   | 0, _ => exact ⟨⟨g, x0, x1, x2, x3, x4, x5, x6, rfl, hk.lt, fun q u hu => by
     rw[hk.cell];have hq:q<7:=(List.getElem?_eq_some_iff.1 hu).1;rw[List.getElem?_toArray]
     rw[List.getElem?_append_left (by simp;omega),Nat.zero_mul,Nat.zero_add,hu],fun W hW=>(wI b B s iv m AS hbB Jj h0 hn x _ W (hm.old hW) (hx.old hW) hnum.1 hf.2.1 ho.2.1).mono fun _ _=>wG.upTo (Nat.le_max_left _ _)⟩⟩
   | 1, _ => exact ⟨⟨g, y0, y1, y2, y3, y4, y5, y6, rfl, hk.lt, fun q u hu => by
     rw[hk.cell];rw[List.getElem?_toArray];rw[List.getElem?_append_right (by simp)]
     simpa using hu,fun W hW=>(wI b B s iv m AS hbB Jj h0 hn y _ W (hm.old hW) (hy.old hW) hnum.2 hf.2.2 ho.2.2).mono fun _ _=>wG.upTo (Nat.le_max_right _ _)⟩⟩)
  rw[show(⟨#[]⟩:ByteArray).toList=[] by rw[ByteArray.toList_eq]]at this;exact this
end Go.Proofs.Ytbjnhllkdilpfaa
