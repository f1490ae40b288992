/- Part 28 of the proof. No conditions. -/
import Derived.Test.YtbjnhllkdilpfaaZb24
import Derived.Test.YtbjnhllkdilpfaaZb27
namespace Go.Proofs.Ytbjnhllkdilpfaa
open Go.RowKit
set_option linter.unusedSimpArgs false
set_option linter.unusedVariables false
set_option maxHeartbeats 16000000
set_option maxRecDepth 100000
def Qv (s:ah) (items:List cO) (op n sc:Nat) (nm a:Str) (K:Int) (asked:Str) (ts:List T):T:=
 if op<20 then .mk op K ts 0 0 0 0
 else if op=21 then .mk 40 K [] K (xP n sc).1 0 0
 else if op=23 then .mk 40 K [] K (eU nm 0 (s.syms.map (·.toList))).toNat 0 0
 else if op<24 then .mk 40 K [] K n 0 0
 else if op=25 then .mk op K ts 0 0 (dW nm items).1.pos 0
 else if op=24 then
  if nm=asked then .mk 41 K ts 0 0 0 (if a≠iq then bQ s (dW nm items).1.kind a else -1)
  else .mk 42 K ts 0 0 (dW nm items).1.pos (if a≠iq then bQ s (dW nm items).1.kind a else -1)
 else .mk op K ts 0 0 (dW nm items).1.pos (if a≠iq then bQ s (dW nm items).1.kind a else -1)
def Jy (s:ah) (m:MS) (asked:Str):au->T
 |.leaf op n sc nm a p=>Qv s m.items op n sc nm a (dX s (.leaf op n sc nm a p) m).1 asked []
 |.un op x p=>Qv s m.items op 0 0 [] [] (dX s (.un op x p) m).1 asked [Jy s m asked x]
 |.bin op x y p=>Qv s m.items op 0 0 [] [] (dX s (.bin op x y p) m).1 asked [Jy s m asked x,Jy s m asked y]
def uA (d:Nat) (t:T) (W:World) (r:Ending) (W':World):Prop:=∃cs:List Value,r=.returned (.agg cs.toArray)/\eX (fun q=>W.heap.size<=q) d t cs W'/\Below W.heap.size W W'
structure ZA (b:Nat) (AS:ByteArray) (w:World) (A:Option Addr) (j d:Nat) (t:T):Prop where
 ex:∃(g:Nat) (d0 d1 d2 d3 d4 d5 d6:Value),A=some ⟨g,0,none⟩/\g<w.heap.size/\(∀(q:Nat) (u:Value),[d0,d1,d2,d3,d4,d5,d6][q]? =some u->w.cell? ⟨g,j*7+q,none⟩=some u)/\
  ∀W:World,Below w.heap.size w W->Calls Try.prog 72 #[.pointer (some ⟨b,0,none⟩),.agg #[d0,d1,d2,d3,d4,d5,d6],.string AS] W (uA d t W)
structure Qw (bx gr gx B1 d:Nat) (cx:Array Value) (w:World) (op K:Int) (A:Option Addr) (n c:Nat) (vs:List ax) (W:World):Prop where
 kx:Bk W bx 118 cx
 kr:Bk W gr 76 #[.int .i64 0,.int .i64 0,.slice none 0 0,.int .i64 0,.int .u64 0,.int .i64 0,.int .i64 0]
 kn:Bk W gx 76 #[.int .i64 op,.int .i64 K,.slice A n c,.int .i64 0,.int .u64 0,.int .i64 0,.int .i64 0]
 own:W.ownsRow B1 76 7 (.slice A n c) n (vs.flatMap ax.cells)
 oks:∀y∈vs,okS (fun q=>B1<=q/\some q≠(Value.slice A n c).ownBlock) d y W
 bel:Below w.heap.size w W
 sz:B1<=W.heap.size
theorem dE (w:World):(sizeOf 76).run Try.prog w=.ok 7 w:=by
 obtain⟨i,hi,h0,h1,h2⟩:=info_parts Jw;simp[sizeOf,typeInfo,hi,h1]
theorem Qw.old {bx gr gx B1 d:Nat} {cx:Array Value} {w:World} {op K:Int} {A:Option Addr} {n c:Nat} {vs:List ax} {W W':World} (h:Qw bx gr gx B1 d cx w op K A n c vs W) (hb:Below W.heap.size W W'):Qw bx gr gx B1 d cx w op K A n c vs W':=
 ⟨h.kx.old hb,h.kr.old hb,h.kn.old hb,aP h.own hb,fun y hy=>(h.oks y hy).keep fun q hq hlt=>⟨hq,Nat.lt_of_lt_of_le hlt hb.size,hb.block q hlt⟩,h.bel.trans (hb.mono h.bel.size),Nat.le_trans h.sz hb.size⟩
theorem Qw.grow {bx gr gx B1 d : Nat} {cx : Array Value} {w : World} {op K : Int} {A A' : Option Addr} {k c c' : Nat} {vs : List ax} {n : ax} {W W' : World} (h : Qw bx gr gx B1 d cx w op K A k c vs W) (hbx : bx < B1) (hgr : gr < B1) (hgx : gx < B1) (hw : w.heap.size ≤ gx) (hxr : gx ≠ gr) (hxb : gx ≠ bx) {Wn : Nat} (hWn : B1 ≤ Wn) (hf : ∀ q, Wn ≤ q → some q ≠ (Value.slice A k c).ownBlock)
  (hn:okS (fun q=>Wn<=q) d n W) (hown:W'.ownsRow B1 76 7 (.slice A' (k+1) c') (k+1) (vs.flatMap ax.cells++n.cells)) (hg:W.grownBy W' (Value.slice A k c).ownBlock) (hwh:(Value.slice A' (k+1) c').ownBlock=(Value.slice A k c).ownBlock\/(Value.slice A' (k+1) c').ownBlock=some W.heap.size):
  Qw bx gr gx B1 d cx w op K A' (k+1) c' (vs++[n]) (W'.setCell ⟨gx,2,none⟩ (.slice A' (k+1) c')):=by
 have lo:∀q,q<B1->some q≠(Value.slice A k c).ownBlock:=fun q hq e=>by have:=(h.own.lt q e.symm).1;omega
 have lo':∀q,q<B1->some q≠(Value.slice A' (k+1) c').ownBlock:=fun q hq e=>by have:=(hown.lt q e.symm).1;omega
 have keep:∀q,B1<=q->q<W.heap.size->some q≠(Value.slice A k c).ownBlock->q<(W'.setCell ⟨gx,2,none⟩ (.slice A' (k+1) c')).heap.size/\(W'.setCell ⟨gx,2,none⟩ (.slice A' (k+1) c')).heap[q]? =W.heap[q]? :=by
  intro q h1 h2 h3;have hz:=hg.size;refine⟨by simp;omega,?_⟩;rw[Below.heap_setCell W' _ _ q (by show q≠gx;omega),hg.block q h2 h3]
 have hne:∀q,q<W.heap.size->some q≠(Value.slice A k c).ownBlock->some q≠(Value.slice A' (k+1) c').ownBlock:=by
  intro q h1 h2;rcases hwh with e|e
  ·rw[e];exact h2
  ·rw[e];intro he;injection he with he;omega
 refine⟨(h.kx.grown hg (lo bx hbx)).far (by show bx≠gx;omega) _,(h.kr.grown hg (lo gr hgr)).far (by show gr≠gx;omega) _,(h.kn.grown hg (lo gx hgx)).put 2 _,?_,?_,?_,?_⟩
 ·rw[List.flatMap_append];have:=ownsRow_setCell_other hown (fun e=>lo' gx hgx e.symm) (.slice A' (k+1) c') (a:=⟨gx,2,none⟩)
  simpa using this
 ·intro y hy;rcases List.mem_append.1 hy with hy|hy
  ·refine(h.oks y hy).keep fun q hq hlt=>?_
   obtain⟨k1,k2⟩:=keep q hq.1 hlt hq.2;exact⟨⟨hq.1,hne q hlt hq.2⟩,k1,k2⟩
  ·simp only[List.mem_cons,List.not_mem_nil,or_false]at hy;subst hy;refine hn.keep fun q hq hlt=>?_
   obtain⟨k1,k2⟩:=keep q (by omega) hlt (hf q hq);exact⟨⟨by omega,hne q hlt (hf q hq)⟩,k1,k2⟩
 ·refine Below.setCell ?_ hw _;have hz:=hg.size;have hb:=h.bel;exact⟨hg.os.trans hb.os,hg.tape.trans hb.tape,hg.output.trans hb.output,Nat.le_trans hb.size hz,fun q hq=>(hg.block q (Nat.lt_of_lt_of_le hq hb.size) (lo q (by omega))).trans (hb.block q hq)⟩
 ·have:=h.sz;have:=hg.size;simp;omega
structure Ry (bx gr B1 d:Nat) (cx:Array Value) (w:World) (A:Option Addr) (n c:Nat) (vs:List ax) (W:World):Prop where
 kx:Bk W bx 118 cx
 kr:Bk W gr 76 #[.int .i64 0,.int .i64 0,.slice none 0 0,.int .i64 0,.int .u64 0,.int .i64 0,.int .i64 0]
 own:W.ownsRow B1 76 7 (.slice A n c) n (vs.flatMap ax.cells)
 oks:∀y∈vs,okS (fun q=>B1<=q/\some q≠(Value.slice A n c).ownBlock) d y W
 bel:Below w.heap.size w W
 sz:B1<=W.heap.size
theorem Qw.m {bx gr gx B1 d:Nat} {cx:Array Value} {w:World} {op K:Int} {A:Option Addr} {n c:Nat} {vs:List ax} {W:World} (h:Qw bx gr gx B1 d cx w op K A n c vs W):Ry bx gr B1 d cx w A n c vs W:=⟨h.kx,h.kr,h.own,h.oks,h.bel,h.sz⟩
section
variable {bx gr B1 d:Nat} {cx:Array Value} {w:World} {A:Option Addr} {n c:Nat} {vs:List ax} {W W':World}
theorem Ry.old (h:Ry bx gr B1 d cx w A n c vs W) (hb:Below W.heap.size W W'):Ry bx gr B1 d cx w A n c vs W':=
 ⟨h.kx.old hb,h.kr.old hb,aP h.own hb,fun y hy=>(h.oks y hy).keep fun q hq hlt=>⟨hq,Nat.lt_of_lt_of_le hlt hb.size,hb.block q hlt⟩,h.bel.trans (hb.mono h.bel.size),Nat.le_trans h.sz hb.size⟩
theorem Ry.set (h:Ry bx gr B1 d cx w A n c vs W) {gx:Nat} (hB:gx<B1) (hw:w.heap.size<=gx) (hx:bx≠gx) (hr:gr≠gx) (i:Nat) (u:Value):Ry bx gr B1 d cx w A n c vs (W.setCell ⟨gx,i,none⟩ u):=
 ⟨h.kx.far (by exact hx) _,h.kr.far (by exact hr) _,ownsRow_setCell_other h.own (fun e=>by have:=(h.own.lt gx e).1;omega) _,fun y hy=>(h.oks y hy).keep fun q hq hlt=>⟨hq,by simpa using hlt,Below.heap_setCell W _ _ q (by show q≠gx;omega)⟩,h.bel.setCell hw _,by simpa using h.sz⟩
theorem Ry.node (h : Ry bx gr B1 d cx w A n c vs W) (hlen : vs.length = n) (hn : n ≤ 2) (hr : gr < B1) (hw : w.heap.size ≤ gr) {o K vk pos a : Int} {vb : Nat} {ts : List T} (hts : vs.map (bV d) = ts) (hvb : vb < 18446744073709551616) (hB : w.heap.size ≤ B1)
  (hp:lY W gr 76 #[.int .i64 o,.int .i64 K,.slice A n c,.int .i64 vk,.int .u64 vb,.int .i64 pos,.int .i64 a] W'):eX (fun q=>w.heap.size<=q) (d+1) (.mk o K ts vk vb pos a) [.int .i64 o,.int .i64 K,.slice A n c,.int .i64 vk,.int .u64 vb,.int .i64 pos,.int .i64 a] W'/\Below w.heap.size w W':=by
 subst hlen;subst hts;have keep:∀q,B1<=q->q<W.heap.size->w.heap.size<=q/\q<W'.heap.size/\W'.heap[q]? =W.heap[q]? :=fun q h1 h2=>⟨by omega,by rw[hp.size];exact h2,hp.other q (by omega)⟩
 exact⟨⟨.mk o K A c vs vk vb pos a,rfl,rfl,(Dz h.own).keep keep,by omega,hvb,fun y hy=>(h.oks y hy).keep fun q hq hlt=>keep q hq.1 hlt⟩,hp.below _ _ h.bel hw⟩
end
theorem KI (w:World):(sizeOf 162).run Try.prog w=.ok 2 w:=by
 obtain⟨i,hi,h0,h1,h2⟩:=info_parts (show(Try.prog.info? 162).map (fun i=>(i.zero,i.size,i.bytes))=some (some (.agg #[.int .i64 0,.int .u64 0]),2,16) by kernel_rfl);simp[sizeOf,typeInfo,hi,h1]
theorem Ce (nm:Str):∀(l:List (List UInt8)) (i:Nat),0<=eU nm i l->(eU nm i l).toNat<i+l.length
 |[],i,h=>by simp[eU]at h
 |x::l,i,h=>by
  unfold eU at h⊢
  split
  ·simp
  ·rename_i hx
   rw[if_neg hx]at h;have:=Ce nm l (i+1) h;simp only[List.length_cons];omega
def ZB (b bx:Nat) (op K n sc p:Int) (A0:Option Addr) (k cc:Nat) (S1 S2:ByteArray) (Bq:Nat):List Spec:=[.is (.pointer (some ⟨bx,0,none⟩)),
 .is (.int .i64 op),
 .is (.pointer (some ⟨b,0,none⟩)),
 .is (.agg #[.int .i64 op,.slice A0 k cc,.int .i64 n,.int .i64 sc,.string S1,.string S2,.int .i64 p]),
 .is (.int .i64 K),
 .is (.agg #[.int .i64 op,.int .i64 K,.slice none 0 0,.int .i64 0,.int .u64 0,.int .i64 0,.int .i64 0]),
 .st (fun v w=>∃g,v=.pointer (some ⟨g,0,none⟩)/\Bq<=g/\Bk w g 76 #[.int .i64 0,.int .i64 0,.slice none 0 0,.int .i64 0,.int .u64 0,.int .i64 0,.int .i64 0]) (fun _ _ _ hb ⟨g,h1,h0,h2⟩=>⟨g,h1,h0,h2.old hb⟩)]
def ZC (g7 b bx j c k cc g d:Nat) (AS:ByteArray) (A:Option Addr) (d0 d1 d2 d3 d4 d5 d6:Value) (t:T) (W:World):List Spec:=[.is (.pointer (some ⟨g7,2,none⟩)),
 .is (.slice A j c),
 .is (.pointer (some ⟨b,0,none⟩)),
 .is (.pointer (some ⟨bx,1,none⟩)),
 .is (.slice (some ⟨g,0,none⟩) k cc),
 .is (.int .i64 (j:Nat)),
 .is (.pointer (some ⟨g,j*7,none⟩)),
 .is (.agg #[d0,d1,d2,d3,d4,d5,d6]),
 .is (.string AS),
 .st (fun v w=>∃cs:List Value,v=.agg cs.toArray/\eX (fun q=>W.heap.size<=q) d t cs w) (fun _ _ _ hb ⟨cs,h1,h2⟩=>⟨cs,h1,h2.old hb⟩),
 .st (fun v w=>∃(g:Nat) (cs:List Value),v=.slice (some ⟨g,0,none⟩) 1 1/\Bk w g 76 cs.toArray/\eX (fun q=>W.heap.size<=q) d t cs w) (fun _ _ _ hb ⟨g,cs,h1,h2,h3⟩=>⟨g,cs,h1,h2.old hb,h3.old hb⟩)]
def VU (b bx:Nat) (s:ah) (S1:ByteArray):List Spec:=[.is (.pointer (some ⟨b,0,none⟩)),
 .is (.pointer (some ⟨b,0,none⟩)),
 .is (.pointer (some ⟨b,0,none⟩)),
 .is (.pointer (some ⟨b,1,none⟩)),
 .is (.slice s.sa s.syms.length s.sc),
 .is (.pointer (some ⟨bx,4,none⟩)),
 .is (.string S1)]
def VV (b bx gi:Nat) (s:ah) (xk:Int) (S2:ByteArray):List Spec:=[.is (.pointer (some ⟨b,0,none⟩)),
 .is (.pointer (some ⟨b,0,none⟩)),
 .is (.pointer (some ⟨b,0,none⟩)),
 .is (.agg #[.slice s.ta s.types.length s.tc,.slice s.sa s.syms.length s.sc]),
 .is (.pointer (some ⟨gi,5,none⟩)),
 .is (.int .i64 xk),
 .is (.pointer (some ⟨bx,5,none⟩)),
 .is (.string S2)]
theorem vZ (b B d : Nat) (s : ah) (iv : Value) (m : MS) (op n sc p : Nat) (S1 S2 AS : ByteArray) (A0 : Option Addr) (k cc : Nat) (ts : List T) (K : Int) (hk : ts.length = k) (hk2 : k ≤ 2) (w : World) (h : ja b B s iv m w) (hn : m.items.length ≤ 1000)
  (hnn:n<=9223372036854775807) (hsc:sc<=1000) (h23:op=23->0<=eU S1.toList 0 (s.syms.map (·.toList)))
  (hkind:∀W:World,Below w.heap.size w W->Calls Try.prog 70 #[.pointer (some ⟨b,0,none⟩),.agg #[.int .i64 op,.slice A0 k cc,.int .i64 n,.int .i64 sc,.string S1,.string S2,.int .i64 p]] W fun r W'=>r=.returned (.int .i64 K)/\Below W.heap.size W W')
  (hcall:∀j (hj:j<ts.length),ZA b AS w A0 j d ts[j]):
  Calls Try.prog 72 #[.pointer (some ⟨b,0,none⟩),.agg #[.int .i64 op,.slice A0 k cc,.int .i64 n,.int .i64 sc,.string S1,.string S2,.int .i64 p],.string AS] w (uA (d+1) (Qv s m.items op n sc S1.toList S2.toList K AS.toList ts) w):=by
 have HC:=zH hcall;have HK:=zH hkind;have HKK:=zH hk;have HN:=zH hn;have X3:=zH h23;obtain⟨RES,hres⟩:∃z,Qv s m.items op n sc S1.toList S2.toList K AS.toList ts=z:=⟨_,rfl⟩
 rw[hres];have aK:=zH hres;have HM:=zH h;have hbl:=h.bk.lt;clear hcall hkind hk hres h hn h23
 go_enter Try.func72,Try.ntmps72
 have kb:=Bk.new w 118 #[.int .i64 op,.slice A0 k cc,.int .i64 n,.int .i64 sc,.string S1,.string S2,.int .i64 p];have hb0:Below w.heap.size w (w.alloc (.cells #[.int .i64 op,.slice A0 k cc,.int .i64 n,.int .i64 sc,.string S1,.string S2,.int .i64 p] 118)):=zR.alloc zL _;have kr:=Bk.new (w.alloc (.cells #[.int .i64 op,.slice A0 k cc,.int .i64 n,.int .i64 sc,.string S1,.string S2,.int .i64 p] 118)) 76 #[.int .i64 0,.int .i64 0,.slice none 0 0,.int .i64 0,.int .u64 0,.int .i64 0,.int .i64 0];go_upto_region 1 with fail
 obtain⟨bx,hbx⟩:∃z,w.heap.size=z:=⟨_,rfl⟩
 have jl:=zH hbx;have hs1:(w.alloc (.cells #[.int .i64 op,.slice A0 k cc,.int .i64 n,.int .i64 sc,.string S1,.string S2,.int .i64 p] 118)).heap.size=bx+1:=by simp;omega
 have ZE:=kb.alloc (.cells #[.int .i64 0,.int .i64 0,.slice none 0 0,.int .i64 0,.int .u64 0,.int .i64 0,.int .i64 0] 76);have hb1:=hb0.alloc (by simp) (.cells #[.int .i64 0,.int .i64 0,.slice none 0 0,.int .i64 0,.int .u64 0,.int .i64 0,.int .i64 0] 76);rw[hs1]at kr;rw[hbx]at ZE⊢;obtain⟨W,hwo⟩:∃z,(w.alloc (.cells #[.int .i64 op,.slice A0 k cc,.int .i64 n,.int .i64 sc,.string S1,.string S2,.int .i64 p] 118)).alloc (.cells #[.int .i64 0,.int .i64 0,.slice none 0 0,.int .i64 0,.int .u64 0,.int .i64 0,.int .i64 0] 76)=z:=⟨_,rfl⟩
 rw[hwo]at ZE kr hb1⊢;obtain⟨gr,hgr⟩:∃z,bx+1=z:=⟨_,rfl⟩
 rw[hgr]at kr⊢;have hbb:b<bx:=by omega
 have ZF:=kr.lt;obtain⟨q0,q1,q2,q3,q4,q5,q6⟩:=zc7 ZE;clear kb hb0 hs1 hwo;have hbe:=hb1;refine cZ 7 (fun k=>k==6) (by kernel_rfl) (fun qk=>(ZB b bx op K n sc p A0 k cc S1 S2 W.heap.size).getD qk .any) (by kernel_rfl) ?_ ?_
 ·refine aj.cons rfl [] [4] rfl rfl (by kernel_rfl) (by kernel_rfl) (fun qK qa wr hB qO qF hK=>?_) ?_
  ·have e4:qa.tmps[4]? =some (.pointer (some ⟨bx,0,none⟩)):=qO.1.trans rfl;clear qO qF;go_simp;exact hK _ _ zR rfl
  refine aj.cons rfl [0] [] rfl rfl (by kernel_rfl) (by kernel_rfl) (fun qK qa wr hB qO qF hK=>?_) ?_
  ·have e12:=aH qF.1 rfl rfl;clear qO qF;have hq0:=zE hB q0;go_simp;exact hK _ _ zR rfl
  refine aj.cons rfl [] [0] rfl rfl (by kernel_rfl) (by kernel_rfl) (fun qK qa wr hB qO qF hK=>?_) ?_
  ·have e0:qa.tmps[0]? =some (.pointer (some ⟨b,0,none⟩)):=qO.1.trans rfl;clear qO qF;go_simp;exact hK _ _ zR rfl
  refine aj.cons rfl [] [4] rfl rfl (by kernel_rfl) (by kernel_rfl) (fun qK qa wr hB qO qF hK=>?_) ?_
  ·have e4:qa.tmps[4]? =some (.pointer (some ⟨bx,0,none⟩)):=qO.1.trans rfl;clear qO qF;have hq0:=zE hB q0;have hq1:=zE hB q1;have hq2:=zE hB q2;have hq3:=zE hB q3;have hq4:=zE hB q4;have hq5:=zE hB q5;have hq6:=zE hB q6;go_simp;exact hK _ _ zR rfl
  refine aj.cons rfl [2,3] [] rfl rfl (by kernel_rfl) (by kernel_rfl) (fun qK qa wr hB qO qF hK=>?_) ?_
  ·have e14:=aH qF.1 rfl rfl;have e15:=aH qF.2.1 rfl rfl;clear qO qF;go_simp
   go_at_call 70
   refine(HK.out wr (hbe.trans (hB.mono hbe.size))).mono ?_;rintro r w9 ⟨rfl,dZ⟩;exact hK _ _ dZ rfl
  refine aj.cons rfl [1,4] [] rfl rfl (by kernel_rfl) (by kernel_rfl) (fun qK qa wr hB qO qF hK=>?_) ?_
  ·have e13:=aH qF.1 rfl rfl;have e16:=aH qF.2.1 rfl rfl;clear qO qF;go_simp;exact hK _ _ zR rfl
  refine aj.fresh rfl [] [] rfl rfl (by kernel_rfl) (by kernel_rfl) (fun qK qa wr hB qO qF hK=>?_) ?_
  ·clear qO qF;go_simp;exact hK _ _ (zR.alloc zL _) ⟨_,rfl,hB.size,Bk.new _ _ _⟩ ⟨_,rfl,by simp,by simp⟩
  exact aj.nil
 intro vals wr hl hB hR hS
 match vals,hl with
 |[z12,z13,z14,z15,YX,z17,z7],_=>
 have r5:z17=.agg #[.int .i64 op,.int .i64 K,.slice none 0 0,.int .i64 0,.int .u64 0,.int .i64 0,.int .i64 0]:=hR 5 _ rfl;subst r5;obtain⟨g7,r6,n7,k7⟩:=(show∃g,z7=.pointer (some ⟨g,0,none⟩)/\W.heap.size<=g/\Bk wr g 76 #[.int .i64 0,.int .i64 0,.slice none 0 0,.int .i64 0,.int .u64 0,.int .i64 0,.int .i64 0]from hR 6 _ rfl)
 subst r6;clear hS;clear hR;simp only[List.take_succ_cons,List.take_zero,List.drop_succ_cons,List.drop_zero,List.toList_toArray,List.cons_append,List.nil_append,aN,Act.put,List.setIfInBounds_toArray,List.set_cons_zero,List.set_cons_succ];have hb2:=hbe.trans (hB.mono hbe.size);have kb2:=ZE.old hB;have kr2:=kr.old hB;have hgx:gr<g7:=by omega
 have hwx:w.heap.size<=g7:=by omega
 have hxb:bx<gr:=by omega
 have Qr:=k7.lt;clear q0 q1 q2 q3 q4 q5 q6 ZE kr hb1 hB hbe n7 ZF HK;go_upto_region 2 with(first|(refine ae dE rfl _ _ rfl rfl [.int .i64 op,.int .i64 K,.slice none 0 0,.int .i64 0,.int .u64 0,.int .i64 0,.int .i64 0] rfl k7 rfl rfl rfl ?_;intro w0 p0))
 have V0:Qw bx gr g7 w0.heap.size d #[.int .i64 op,.slice A0 k cc,.int .i64 n,.int .i64 sc,.string S1,.string S2,.int .i64 p] w op K none 0 0 [] w0:=⟨p0.Eu kb2 (by omega),p0.Eu kr2 (by omega),p0.bk,World.ownsRow_nil _ _ _ _,fun y hy=>absurd hy (by simp),p0.below _ _ hb2 hwx,Nat.le_refl _⟩
 have Bj:g7<w0.heap.size:=p0.bk.lt;have lJ:=zH V0;have e1:=V0.kx.cell 1;obtain⟨iN,hN,hN0,hN1,VW⟩:=info_parts Jw;clear kb2 kr2 k7 hb2 p0 V0 Qr;go_wp2_with fail
 clear e1
 go_loopw[21] (fun i wr=>∃(j:Nat) (A:Option Addr) (c:Nat) (vs:List ax),j<=k/\i=.int .i64 j/\Hid (vs.map (bV d)=ts.take j)/\Hid (Qw bx gr g7 w0.heap.size d #[.int .i64 op,.slice A0 k cc,.int .i64 n,.int .i64 sc,.string S1,.string S2,.int .i64 p] w op K A j c vs wr)) (fun i _=>k-(intOf i).toNat)
 case atStart=>exact⟨0,none,0,[],Nat.zero_le _,rfl,zH rfl,lJ⟩
 case round=>
  clear lJ;obtain⟨j,A,c,vs,hj,rfl,HT,HV⟩:=hrel;obtain⟨W,rfl⟩:∃W:World,W=wr:=⟨_,rfl⟩
  by_cases hlt:j<k
  ·as_aux_lemma=>
   have hjl:j<ts.length:=by rw[HKK.out];exact hlt
   obtain⟨g,d0,d1,d2,d3,d4,d5,d6,rfl,hg,hc,hq⟩:=(HC.out j hjl).ex;have x2:W.cell? ⟨g7,2,none⟩=some (.slice A j c):=HV.out.kn.cell 2;have e1:W.cell? ⟨bx,1,none⟩=some (.slice (some ⟨g,0,none⟩) k cc):=HV.out.kx.cell 1;have hcc:∀(q:Nat) (u:Value),[d0,d1,d2,d3,d4,d5,d6][q]? =some u->W.cell? ⟨g,j*7+q,none⟩=some u:=fun q u h=>(aU HV.out.bel g _ hg).trans (hc q u h)
   have r0:W.cell? ⟨g,j*7,none⟩=some d0:=hcc 0 _ rfl;have r1:W.cell? ⟨g,j*7+1,none⟩=some d1:=hcc 1 _ rfl;have r2:W.cell? ⟨g,j*7+2,none⟩=some d2:=hcc 2 _ rfl;have r3:W.cell? ⟨g,j*7+3,none⟩=some d3:=hcc 3 _ rfl;have r4:W.cell? ⟨g,j*7+4,none⟩=some d4:=hcc 4 _ rfl;have r5:W.cell? ⟨g,j*7+5,none⟩=some d5:=hcc 5 _ rfl;have r6:W.cell? ⟨g,j*7+6,none⟩=some d6:=hcc 6 _ rfl;obtain⟨t,ht⟩:∃z,ts[j]=z:=⟨_,rfl⟩
   rw[ht]at hq;have HT2:Hid (ts.take (j+1)=ts.take j++[t]):=zH (by rw[List.take_succ_eq_append_getElem hjl,ht]);have HQ:Hid (∀W':World,Below W.heap.size W W'->Calls Try.prog 72 #[.pointer (some ⟨b,0,none⟩),.agg #[d0,d1,d2,d3,d4,d5,d6],.string AS] W' (uA d t W')):=zH fun W' h=>hq W' (HV.out.bel.trans (h.mono HV.out.bel.size))
   clear hc hq hcc hg HC ht;go_upto_region 5 with fail
   refine cZ 11 (fun k=>false) (by kernel_rfl) (fun qk=>(ZC g7 b bx j c k cc g d AS A d0 d1 d2 d3 d4 d5 d6 t W).getD qk .any) (by kernel_rfl) ?_ ?_
   ·refine aj.cons rfl [] [7] rfl rfl (by kernel_rfl) (by kernel_rfl) (fun qK qa wr hB qO qF hK=>?_) ?_
    ·have e7:qa.tmps[7]? =some (.pointer (some ⟨g7,0,none⟩)):=qO.1.trans rfl;clear qO qF;go_simp;exact hK _ _ zR rfl
    refine aj.cons rfl [0] [] rfl rfl (by kernel_rfl) (by kernel_rfl) (fun qK qa wr hB qO qF hK=>?_) ?_
    ·have e24:=aH qF.1 rfl rfl;clear qO qF;have hx2:=zE hB x2;go_simp;exact hK _ _ zR rfl
    refine aj.cons rfl [] [0] rfl rfl (by kernel_rfl) (by kernel_rfl) (fun qK qa wr hB qO qF hK=>?_) ?_
    ·have e0:qa.tmps[0]? =some (.pointer (some ⟨b,0,none⟩)):=qO.1.trans rfl;clear qO qF;go_simp;exact hK _ _ zR rfl
    refine aj.cons rfl [] [4] rfl rfl (by kernel_rfl) (by kernel_rfl) (fun qK qa wr hB qO qF hK=>?_) ?_
    ·have e4:qa.tmps[4]? =some (.pointer (some ⟨bx,0,none⟩)):=qO.1.trans rfl;clear qO qF;go_simp;exact hK _ _ zR rfl
    refine aj.cons rfl [3] [] rfl rfl (by kernel_rfl) (by kernel_rfl) (fun qK qa wr hB qO qF hK=>?_) ?_
    ·have e27:=aH qF.1 rfl rfl;clear qO qF;have he1:=zE hB e1;go_simp;exact hK _ _ zR rfl
    refine aj.cons rfl [] [8] rfl rfl (by kernel_rfl) (by kernel_rfl) (fun qK qa wr hB qO qF hK=>?_) ?_
    ·have e8:qa.tmps[8]? =some (.int .i64 (j:Nat)):=qO.1.trans rfl;clear qO qF;go_simp;exact hK _ _ zR rfl
    refine aj.cons rfl [4,5] [] rfl rfl (by kernel_rfl) (by kernel_rfl) (fun qK qa wr hB qO qF hK=>?_) ?_
    ·have e28:=aH qF.1 rfl rfl;have e29:=aH qF.2.1 rfl rfl;clear qO qF;go_simp;exact hK _ _ zR rfl
    refine aj.cons rfl [6] [] rfl rfl (by kernel_rfl) (by kernel_rfl) (fun qK qa wr hB qO qF hK=>?_) ?_
    ·have e30:=aH qF.1 rfl rfl;clear qO qF;have hr0:=zE hB r0;have hr1:=zE hB r1;have hr2:=zE hB r2;have hr3:=zE hB r3;have hr4:=zE hB r4;have Vu:=zE hB r5;have hr6:=zE hB r6;go_simp;exact hK _ _ zR rfl
    refine aj.cons rfl [] [2] rfl rfl (by kernel_rfl) (by kernel_rfl) (fun qK qa wr hB qO qF hK=>?_) ?_
    ·have e2:qa.tmps[2]? =some (.string AS):=qO.1.trans rfl;clear qO qF;go_simp;exact hK _ _ zR rfl
    refine aj.cons rfl [2,7,8] [] rfl rfl (by kernel_rfl) (by kernel_rfl) (fun qK qa wr hB qO qF hK=>?_) ?_
    ·have e26:=aH qF.1 rfl rfl;have e31:=aH qF.2.1 rfl rfl;have e32:=aH qF.2.2.1 rfl rfl;clear qO qF;go_simp
     go_at_call 72
     refine(HQ.out wr hB).mono ?_;rintro r w9 ⟨cs,rfl,h2,dZ⟩;exact hK _ _ dZ ⟨cs,rfl,h2.keep fun q hq hlt=>⟨Nat.le_trans hB.size hq,hlt,rfl⟩⟩
    refine aj.cons rfl [9] [] rfl rfl (by kernel_rfl) (by kernel_rfl) (fun qK qa wr hB qO qF hK=>?_) ?_
    ·obtain⟨u33,e33,r9⟩:=qF.1;obtain⟨cs,h33,hns⟩:=(show∃cs:List Value,u33=.agg cs.toArray/\eX (fun q=>W.heap.size<=q) d t cs wr from r9)
     subst h33;have e33:qa.tmps[33]? =some (.agg cs.toArray):=e33;clear qO qF;obtain⟨c0,c1,c2,c3,c4,c5,c6,rfl,_⟩:=hns.seven;refine lN (.tmp 33) rfl (bK e33) ?_;exact hK _ _ (zR.alloc zL _) ⟨_,_,rfl,Bk.new _ _ _,hns.old (zR.alloc zL _)⟩
    exact aj.nil
   intro vals wr hl hB hR hS
   match vals,hl with
   |[z24,z25,z26,z27,z28,z29,z30,z31,z32,z33,z34],_=>
   have r1:z25=.slice A j c:=hR 1 _ rfl;subst r1;have r10:(fun v w=>∃(g:Nat) (cs:List Value),v=.slice (some ⟨g,0,none⟩) 1 1/\Bk w g 76 cs.toArray/\eX (fun q=>W.heap.size<=q) d t cs w) z34 wr:=hR 10 _ rfl;clear hS;clear hR;simp only[List.take_succ_cons,List.take_zero,List.drop_succ_cons,List.drop_zero,List.toList_toArray,List.cons_append,List.nil_append,aN,Act.put,List.setIfInBounds_toArray,List.set_cons_zero,List.set_cons_succ];obtain⟨g34,cs34,rfl,k34,n34⟩:=r10;obtain⟨nv,rfl,htn,hok⟩:=n34;have hv:=HV.out.old hB;have hz0:=HV.out.sz;have hj2:j<=2:=by omega
   have hsz:=hv.sz;have HF:Hid (∀q,W.heap.size<=q->some q≠(Value.slice A j c).ownBlock):=zH fun q hq e=>by have:=(HV.out.own.lt q e.symm).2;omega
   have hown:=hv.own;have HVV:=zH hv;have vw:=zH hok;have HTN:=zH htn;clear hv hok htn HQ HV x2 e1 r0 r1 r2 r3 r4 r5 r6 hB;go_wp2_with (first|at_builtin;(refine az rfl _ _ 29 rfl w0.heap.size 76 iN _ 7 72 Try.underlying29 hN hN0 hN1 VW rfl (by decide) (.slice A j c) j _ rfl hown (g34+1) (some ⟨g34,0,none⟩) 1 1 nv.cells rfl (Rd.bk k34 (Nat.lt_succ_self _)) ?c1 ?c2 ?c3 ?c4 hsz ?_))
   case c1=>exact ax.len _
   case c2=>intro u hu;obtain⟨a1,a2,a3,a4,a5,a6,a7,a8,a9⟩:=nv;simp[ax.cells]at hu;rcases hu with rfl|rfl|rfl|rfl|rfl|rfl|rfl<;>rfl
   case c3=>unfold maxLen;omega
   case c4=>omega
   intro A9 c9 w9 bD jO hwh;have VX:=HVV.out.kn.grown jO (fun e=>by have:=(hown.lt g7 e.symm).1;omega);have f2:=VX.frozen 2;have x2:w9.cell? ⟨g7,2,none⟩=some (.slice A j c):=VX.cell 2;have pq:=zH (HVV.out.grow (by omega) (by omega) Bj hwx (by omega) (by omega) hz0 HF.out vw.out bD jO hwh);have HT9:Hid ((vs++[nv]).map (bV d)=ts.take (j+1)):=zH (by rw[HT2.out,<-HT.out,List.map_append];show _++[bV d nv]=_;rw[HTN.out]);clear hown bD jO hwh HVV vw HTN HF k34 hsz VX HT HT2;go_wp2
   go_roundw
   case rel=>exact⟨j+1,A9,c9,_,by omega,by go_num,HT9,pq⟩
   case measure=>simp[intOf];omega
  ·obtain rfl:j=k:=by omega
   have hT:=HT.out;rw[List.take_of_length_le (by rw[HKK.out];exact Nat.le_refl _)]at hT;have GZ:=zH hT;have x1:W.cell? ⟨g7,1,none⟩=some (.int .i64 K):=HV.out.kn.cell 1;clear HT hT HC hlt hj;go_upto_region 7 with fail
   have kv:=Bk.new W 162 #[.int .i64 0,.int .u64 0];have hbW:Below W.heap.size W (W.alloc (.cells #[.int .i64 0,.int .u64 0] 162)):=zR.alloc zL _;go_upto_region 8 with(first|(refine ae KI rfl _ _ rfl rfl [.int .i64 K,.int .u64 0] rfl kv rfl rfl rfl ?_;intro w2 p2))
   have hbv:=p2.below _ _ hbW zL;have hv2:=HV.out.old hbv;have Az:=zH HV.out.m;have KJ:=zH hbv;have Qx:Hid (w.heap.size<=gr):=zH (by have:=jl.out;omega);have VY:Hid (w.heap.size<=w0.heap.size):=zH (by omega);obtain⟨gv,hgv⟩:∃z,W.heap.size=z:=⟨_,rfl⟩
   rw[hgv]at p2⊢;have HGV:=zH hgv;have ZG:=p2.bk;have hgvl:=ZG.lt;have hgvB:w0.heap.size<=gv:=by have:=HV.out.sz;omega
   have iM:=zH hv2;have VZ:=zH ZG;have hlen:vs.length=j:=by rw[<-HKK.out,<-GZ.out,List.length_map]
   have HLEN:=zH hlen;have q0:=hv2.kx.cell 0;have v0:=ZG.cell 0;have v1:=ZG.cell 1;clear p2 kv hbW hv2 ZG x1 HV hlen hgv hbv
   by_cases hc:op<20
   case pos=>
    as_aux_lemma=>
    have l20:(op:Int)<20:=by omega
    have hR:=aK.out;unfold Qv at hR;rw[if_pos hc]at hR;have HR:=zH hR;have kr:=iM.out.kr;obtain⟨x0,x1,x2,x3,x4,x5,x6⟩:=zc7 iM.out.kn;clear aK hR hc X3;go_wp2_with (first|(refine ae dE rfl _ _ rfl rfl [.int .i64 op,.int .i64 K,.slice A j c,.int .i64 0,.int .u64 0,.int .i64 0,.int .i64 0] rfl kr rfl rfl rfl ?_;intro w9 p9))
    obtain⟨u0,u1,u2,u3,u4,u5,u6⟩:=zc7 p9.bk;refine bodyPost_ret (v:=.agg #[.int .i64 op,.int .i64 K,.slice A j c,.int .i64 0,.int .u64 0,.int .i64 0,.int .i64 0]) (by simp[results,Try.results72,go_sem,u0,u1,u2,u3,u4,u5,u6]) rfl ?_;obtain rfl:=HR.out;have:=iM.out.m.node HLEN.out hk2 (by omega) (by have:=jl.out;omega) GZ.out (by decide) (by have:=iM.out.bel.size;omega) p9;exact⟨_,rfl,this.1,this.2⟩
   case neg=>
   have l20:¬(op:Int)<20:=by omega
   by_cases hc21:op=21
   case pos=>
    as_aux_lemma=>
    have e21:((op:Int)==21)=true:=by rw[beq_iff_eq];omega
    have l24:(op:Int)<24:=by omega
    have hR:=aK.out;unfold Qv at hR;rw[if_neg hc,if_pos hc21]at hR;have HD:=zH (OB n sc hnn hsc w2);have hdl:=Rx n sc;obtain⟨⟨db,dk⟩,hdd⟩:∃z,xP n sc=z:=⟨_,rfl⟩
    rw[hdd]at HD hR hdl;simp only at HD hR hdl;have HR:=zH hR;have ZH:=zH hdl;have q2:=iM.out.kx.cell 2;have q3:=iM.out.kx.cell 3;clear aK hR hc hc21 X3 hdd hdl;go_wp2_with fail
    refine HD.out.mono ?_;rintro r w4 ⟨rfl,hb4⟩;have FM:=KJ.out.trans (hb4.mono KJ.out.size);have G5:=VZ.out.old hb4;clear HD hb4 iM q0 q2 q3 v0 v1;have f1:=G5.frozen 1;have c1:=G5.cell 1;have OD:=G5.put 1 (.int .u64 (db:Nat));have FN:Below W.heap.size W (w4.setCell ⟨gv,1,none⟩ (.int .u64 (db:Nat))):=FM.setCell (by have:=HGV.out;show W.heap.size<=gv;omega) _;have FO:=Az.out.old FN;have kr:=FO.kr;have q0:=FO.kx.cell 0;have v0:(w4.setCell ⟨gv,1,none⟩ (.int .u64 (db:Nat))).cell? ⟨gv,0,none⟩=some (.int .i64 K):=OD.cell 0;have v1:(w4.setCell ⟨gv,1,none⟩ (.int .u64 (db:Nat))).cell? ⟨gv,1,none⟩=some (.int .u64 (db:Nat)):=OD.cell 1;have ZI:=zH FO;clear G5 OD FM FN FO Az KJ VZ GZ HLEN;go_wp2_with (first|(refine ae dE rfl _ _ rfl rfl [.int .i64 40,.int .i64 K,.slice none 0 0,.int .i64 K,.int .u64 (db:Nat),.int .i64 0,.int .i64 0] rfl kr rfl rfl rfl ?_;intro w9 p9))
    obtain⟨u0,u1,u2,u3,u4,u5,u6⟩:=zc7 p9.bk;refine bodyPost_ret (v:=.agg #[.int .i64 40,.int .i64 K,.slice none 0 0,.int .i64 K,.int .u64 (db:Nat),.int .i64 0,.int .i64 0]) (by simp[results,Try.results72,go_sem,u0,u1,u2,u3,u4,u5,u6]) rfl ?_;obtain rfl:=HR.out;exact⟨_,rfl,eX.leaf _ _ _ _ _ _ _ _ ZH.out d,p9.below _ _ ZI.out.bel Qx.out⟩
   case neg=>
   by_cases Ir:op=23
   case pos=>
    as_aux_lemma=>
    have e21:((op:Int)==21)=false:=by rw[beq_eq_false_iff_ne];omega
    have e23:((op:Int)==23)=true:=by rw[beq_iff_eq];omega
    have l24:(op:Int)<24:=by omega
    have hR:=aK.out;unfold Qv at hR;rw[if_neg hc,if_neg hc21,if_pos Ir]at hR;have h0:=X3.out Ir;obtain⟨an,han⟩:=Int.eq_ofNat_of_zero_le h0;have hal:=Ce S1.toList (s.syms.map (·.toList)) 0 h0;have hm2:=HM.out.old (Az.out.bel.trans (KJ.out.mono Az.out.bel.size));have hsl:=hm2.Bf.slen
    have HAT:Hid (∀W':World,Below w2.heap.size w2 W'->Calls Try.prog 85 #[.slice s.sa s.syms.length s.sc,.string S1] W' fun e w'=>e=.returned (.int .i64 (an:Nat))/\W'=w'):=zH fun W' hW=>by
     have:=N7 s.sa s.sc s.syms S1 b W' ((hm2.old hW).Bf.syms) (by unfold maxLen;omega)
     rwa [han]at this
    rw[han]at hR hal;have hal2:an<=9223372036854775807:=by simp at hal;omega
    have hR:T.mk 40 K [] K an 0 0=RES:=hR;have HR:=zH hR;have ZH:Hid (an<18446744073709551616):=zH (by omega);have s1:w2.cell? ⟨b,1,none⟩=some (.slice s.sa s.syms.length s.sc):=hm2.bk.cell 1;have q4:w2.cell? ⟨bx,4,none⟩=some (.string S1):=iM.out.kx.cell 4;clear aK hR hc hc21 Ir X3 hal h0 han hsl hm2 HM;go_upto_region 13 with fail
    clear v0 v1 q0;refine cZ 7 (fun k=>false) (by kernel_rfl) (fun qk=>(VU b bx s S1).getD qk .any) (by kernel_rfl) ?_ ?_
    ·refine aj.cons rfl [] [0] rfl rfl (by kernel_rfl) (by kernel_rfl) (fun qK qa wr hB qO qF hK=>?_) ?_
     ·have e0:qa.tmps[0]? =some (.pointer (some ⟨b,0,none⟩)):=qO.1.trans rfl;clear qO qF;go_simp;exact hK _ _ zR rfl
     refine aj.cons rfl [0] [] rfl rfl (by kernel_rfl) (by kernel_rfl) (fun qK qa wr hB qO qF hK=>?_) ?_
     ·have e63:=aH qF.1 rfl rfl;clear qO qF;go_simp;exact hK _ _ zR rfl
     refine aj.cons rfl [1] [] rfl rfl (by kernel_rfl) (by kernel_rfl) (fun qK qa wr hB qO qF hK=>?_) ?_
     ·have e64:=aH qF.1 rfl rfl;clear qO qF;go_simp;exact hK _ _ zR rfl
     refine aj.cons rfl [2] [] rfl rfl (by kernel_rfl) (by kernel_rfl) (fun qK qa wr hB qO qF hK=>?_) ?_
     ·have e65:=aH qF.1 rfl rfl;clear qO qF;go_simp;exact hK _ _ zR rfl
     refine aj.cons rfl [3] [] rfl rfl (by kernel_rfl) (by kernel_rfl) (fun qK qa wr hB qO qF hK=>?_) ?_
     ·have e66:=aH qF.1 rfl rfl;clear qO qF;have hs1:=zE hB s1;go_simp;exact hK _ _ zR rfl
     refine aj.cons rfl [] [4] rfl rfl (by kernel_rfl) (by kernel_rfl) (fun qK qa wr hB qO qF hK=>?_) ?_
     ·have e4:qa.tmps[4]? =some (.pointer (some ⟨bx,0,none⟩)):=qO.1.trans rfl;clear qO qF;go_simp;exact hK _ _ zR rfl
     refine aj.cons rfl [5] [] rfl rfl (by kernel_rfl) (by kernel_rfl) (fun qK qa wr hB qO qF hK=>?_) ?_
     ·have e68:=aH qF.1 rfl rfl;clear qO qF;have hq4:=zE hB q4;go_simp;exact hK _ _ zR rfl
     exact aj.nil
    intro vals wr hl hB hR hS
    match vals,hl with
    |[z63,z64,z65,z66,z67,z68,z69],_=>
    have r4:z67=.slice s.sa s.syms.length s.sc:=hR 4 _ rfl;subst r4;have r6:z69=.string S1:=hR 6 _ rfl;subst r6;clear hS;clear hR;simp only[List.take_succ_cons,List.take_zero,List.drop_succ_cons,List.drop_zero,List.toList_toArray,List.cons_append,List.nil_append,aN,Act.put,List.setIfInBounds_toArray,List.set_cons_zero,List.set_cons_succ];have FM:=KJ.out.trans (hB.mono KJ.out.size);have G5:=VZ.out.old hB;have HB:=zH hB;clear iM hB s1 q4;have f1:=G5.frozen 1;have c1:=G5.cell 1;go_wp2_with fail
    refine(HAT.out wr HB.out).mono ?_;rintro r w4 ⟨rfl,hw4⟩;subst hw4;have f1:=G5.frozen 1;have c1:=G5.cell 1;have OD:=G5.put 1 (.int .u64 (an:Nat));have FN:Below W.heap.size W (wr.setCell ⟨gv,1,none⟩ (.int .u64 (an:Nat))):=FM.setCell (by have:=HGV.out;show W.heap.size<=gv;omega) _;have FO:=Az.out.old FN;have kr:=FO.kr;have q0:=FO.kx.cell 0;have v0:(wr.setCell ⟨gv,1,none⟩ (.int .u64 (an:Nat))).cell? ⟨gv,0,none⟩=some (.int .i64 K):=OD.cell 0;have v1:(wr.setCell ⟨gv,1,none⟩ (.int .u64 (an:Nat))).cell? ⟨gv,1,none⟩=some (.int .u64 (an:Nat)):=OD.cell 1;have ZI:=zH FO;clear G5 OD FM FN FO Az KJ VZ GZ HLEN;go_wp2_with (first|(refine ae dE rfl _ _ rfl rfl [.int .i64 40,.int .i64 K,.slice none 0 0,.int .i64 K,.int .u64 (an:Nat),.int .i64 0,.int .i64 0] rfl kr rfl rfl rfl ?_;intro w9 p9))
    obtain⟨u0,u1,u2,u3,u4,u5,u6⟩:=zc7 p9.bk;refine bodyPost_ret (v:=.agg #[.int .i64 40,.int .i64 K,.slice none 0 0,.int .i64 K,.int .u64 (an:Nat),.int .i64 0,.int .i64 0]) (by simp[results,Try.results72,go_sem,u0,u1,u2,u3,u4,u5,u6]) rfl ?_;obtain rfl:=HR.out;exact⟨_,rfl,eX.leaf _ _ _ _ _ _ _ _ ZH.out d,p9.below _ _ ZI.out.bel Qx.out⟩
   case neg=>
   by_cases hc24:op<24
   case pos=>
    as_aux_lemma=>
    have e21:((op:Int)==21)=false:=by rw[beq_eq_false_iff_ne];omega
    have e23:((op:Int)==23)=false:=by rw[beq_eq_false_iff_ne];omega
    have l24:(op:Int)<24:=by omega
    have hR:=aK.out;unfold Qv at hR;rw[if_neg hc,if_neg hc21,if_neg Ir,if_pos hc24]at hR;have HR:=zH hR;have ZH:Hid (n<18446744073709551616):=zH (by omega);have q2:=iM.out.kx.cell 2;have FM:=KJ.out;have G5:=VZ.out;clear aK hR hc hc21 Ir hc24 X3;have f1:=G5.frozen 1;have c1:=G5.cell 1;have OD:=G5.put 1 (.int .u64 (n:Nat));have FN:Below W.heap.size W (w2.setCell ⟨gv,1,none⟩ (.int .u64 (n:Nat))):=FM.setCell (by have:=HGV.out;show W.heap.size<=gv;omega) _;have FO:=Az.out.old FN;have kr:=FO.kr;have q0:=FO.kx.cell 0;have v0:(w2.setCell ⟨gv,1,none⟩ (.int .u64 (n:Nat))).cell? ⟨gv,0,none⟩=some (.int .i64 K):=OD.cell 0;have v1:(w2.setCell ⟨gv,1,none⟩ (.int .u64 (n:Nat))).cell? ⟨gv,1,none⟩=some (.int .u64 (n:Nat)):=OD.cell 1;have ZI:=zH FO;clear G5 OD FM FN FO Az KJ VZ GZ HLEN;go_wp2_with (first|(refine ae dE rfl _ _ rfl rfl [.int .i64 40,.int .i64 K,.slice none 0 0,.int .i64 K,.int .u64 (n:Nat),.int .i64 0,.int .i64 0] rfl kr rfl rfl rfl ?_;intro w9 p9))
    obtain⟨u0,u1,u2,u3,u4,u5,u6⟩:=zc7 p9.bk;refine bodyPost_ret (v:=.agg #[.int .i64 40,.int .i64 K,.slice none 0 0,.int .i64 K,.int .u64 (n:Nat),.int .i64 0,.int .i64 0]) (by simp[results,Try.results72,go_sem,u0,u1,u2,u3,u4,u5,u6]) rfl ?_;obtain rfl:=HR.out;exact⟨_,rfl,eX.leaf _ _ _ _ _ _ _ _ ZH.out d,p9.below _ _ ZI.out.bel Qx.out⟩
   case neg=>
   have e21:((op:Int)==21)=false:=by rw[beq_eq_false_iff_ne];omega
   have e23:((op:Int)==23)=false:=by rw[beq_eq_false_iff_ne];omega
   have l24:¬(op:Int)<24:=by omega
   have hm2:=HM.out.old (Az.out.bel.trans (KJ.out.mono Az.out.bel.size));have hF:=uy b B s iv m w2 S1 hm2 HN.out;obtain⟨⟨⟨nm,xb,xp,xo,xf,xk⟩,fb⟩,hx⟩:∃z,dW S1.toList m.items=z:=⟨_,rfl⟩
   have hR:=aK.out;unfold Qv at hR;rw[if_neg hc,if_neg hc21,if_neg Ir,if_neg hc24,hx]at hR;rw[hx]at hF;simp only[cO.cells]at hF hR;obtain⟨FP,V9⟩:∃z,(if S2.toList≠iq then bQ s xk S2.toList else -1)=z:=⟨_,rfl⟩
   rw[V9]at hR;have OE:=zH V9;obtain⟨M,hM⟩:∃M,bytes nm=M:=⟨_,rfl⟩
   rw[hM]at hF;have xK:=zH hF;have HR:=zH hR;have HAT:Hid (∀(W':World),Below w.heap.size w W'->Calls Try.prog 69 #[.agg #[.slice s.ta s.types.length s.tc,.slice s.sa s.syms.length s.sc],.int .i64 xk,.string S2] W' fun e w'=>e=.returned (.int .i64 (bQ s xk S2.toList))/\Below W'.heap.size W' w'):=zH fun W' hW=>sO s xk S2 W' ((HM.out.old hW).Bf.more (Nat.le_of_lt (HM.out.old hW).bk.lt))
   have q4:=iM.out.kx.cell 4;clear aK hR hF hx hM V9 hm2 X3 hc hc21 Ir v0 v1 VZ;go_wp2_with fail
   refine xK.out.mono ?_;rintro r w4 ⟨rfl,hb4⟩;clear xK q0 q4;go_upto_region 19 with(first|(refine ae fQ rfl _ _ rfl rfl [.string M,.int .i64 xb,.int .i64 xp,.int .i64 xo,.int .i64 xf,.int .i64 xk] rfl (Bk.new w4 _ _) rfl rfl rfl ?_;intro w5 p5;go_frame))
   have hb5:Below w2.heap.size w2 w5:=p5.below _ _ (hb4.alloc hb4.size _) hb4.size;have FO:=Az.out.old (KJ.out.trans (hb5.mono KJ.out.size));have kn5:=iM.out.kn.old hb5;have ki5:=p5.bk;have hgi2:=hb4.size;have hg72:g7<w2.heap.size:=iM.out.kn.lt;obtain⟨gi,hgi⟩:∃z,w4.heap.size=z:=⟨_,rfl⟩
   rw[hgi]at ki5 hgi2⊢;have DC:bx≠g7:=by omega
   have DD:gr≠g7:=by omega
   have f5:=kn5.frozen 5;have c5:w5.cell? ⟨g7,5,none⟩=some (.int .i64 0):=kn5.cell 5;have y3:w5.cell? ⟨gi,3,none⟩=some (.int .i64 xo):=ki5.cell 3;have We:Bk (w5.setCell ⟨g7,5,none⟩ (.int .i64 xo)) g7 76 #[.int .i64 op,.int .i64 K,.slice A j c,.int .i64 0,.int .u64 0,.int .i64 xo,.int .i64 0]:=kn5.put 5 _;have Wh:=FO.set Bj hwx DC DD 5 (.int .i64 xo);have ki6:=ki5.far (p:=⟨g7,5,none⟩) (by show gi≠g7;omega) (.int .i64 xo);clear p5 hb4 hb5 FO kn5 ki5 hgi Az KJ iM;go_upto_region 20 with fail
   generalize w5.setCell ⟨g7,5,none⟩ (.int .i64 xo)=w6 at We Wh ki6⊢;clear f5 c5 y3;have q0:=Wh.kx.cell 0;have HM6:=zH Wh
   by_cases hc25:op=25
   case pos=>
    as_aux_lemma=>
    have e25:((op:Int) !=25)=false:=by rw[bne_eq_false_iff_eq];omega
    have e24:((op:Int)==24)=false:=by rw[beq_eq_false_iff_ne];omega
    have hR:=HR.out;rw[if_pos hc25]at hR;have HR2:=zH hR;have kr:=Wh.kr;obtain⟨x0,x1,x2,x3,x4,x5,x6⟩:=zc7 We;clear HR hR hc25 hc24 We ki6 Wh HAT OE HM;go_wp2_with (first|(refine ae dE rfl _ _ rfl rfl [.int .i64 op,.int .i64 K,.slice A j c,.int .i64 0,.int .u64 0,.int .i64 xo,.int .i64 0] rfl kr rfl rfl rfl ?_;intro w9 p9))
    obtain⟨u0,u1,u2,u3,u4,u5,u6⟩:=zc7 p9.bk;refine bodyPost_ret (v:=.agg #[.int .i64 op,.int .i64 K,.slice A j c,.int .i64 0,.int .u64 0,.int .i64 xo,.int .i64 0]) (by simp[results,Try.results72,go_sem,u0,u1,u2,u3,u4,u5,u6]) rfl ?_;obtain rfl:=HR2.out;have:=HM6.out.node HLEN.out hk2 (by omega) Qx.out GZ.out (by decide) VY.out p9;exact⟨_,rfl,this.1,this.2⟩
   case neg=>
   have e25:((op:Int) !=25)=true:=by rw[bne_iff_ne];omega
   have hR:=HR.out;rw[if_neg hc25]at hR;have HR2:=zH hR;have f6:=We.frozen 6;have c6:w6.cell? ⟨g7,6,none⟩=some (.int .i64 0):=We.cell 6;have ZJ:Bk (w6.setCell ⟨g7,6,none⟩ (.int .i64 (-1))) g7 76 #[.int .i64 op,.int .i64 K,.slice A j c,.int .i64 0,.int .u64 0,.int .i64 xo,.int .i64 (-1)]:=We.put 6 _;have Qy:=Wh.set Bj hwx DC DD 6 (.int .i64 (-1));have ki7:=ki6.far (p:=⟨g7,6,none⟩) (by show gi≠g7;omega) (.int .i64 (-1));clear HR hR hc25 We Wh ki6;go_upto_region 22 with fail
   generalize w6.setCell ⟨g7,6,none⟩ (.int .i64 (-1))=w7 at ZJ Qy ki7⊢;clear f6 c6 q0 HM6;have q5:=Qy.kx.cell 5;obtain⟨tm,Eh⟩:∃z,(S2.toList==[84,73,77,69])=z:=⟨_,rfl⟩
   have htn:(S2.toList !=[84,73,77,69])= !tm:=by rw[bne,Eh]
   cases tm
   case true=>
    have hat:FP= -1:=by rw[<-OE.out,if_neg (by rw[show S2.toList=iq from eq_of_beq Eh];simp)]
    subst hat;have htn:(S2.toList !=[84,73,77,69])=false:=htn;clear OE HAT;go_upto_region 24 with fail
    clear htn Eh q5;have Rz:=zH Qy;have KL:=zH ZJ;have q0:=Qy.kx.cell 0;clear Qy ZJ
    by_cases uB:op=24
    case pos=>
     have e24:((op:Int)==24)=true:=by rw[beq_iff_eq];omega
     have hR:=HR2.out;rw[if_pos uB]at hR;have HR3:=zH hR;have f0:=KL.out.frozen 0;have c0:w7.cell? ⟨g7,0,none⟩=some (.int .i64 op):=KL.out.cell 0;have Iu:Bk (w7.setCell ⟨g7,0,none⟩ (.int .i64 42)) g7 76 #[.int .i64 42,.int .i64 K,.slice A j c,.int .i64 0,.int .u64 0,.int .i64 xo,.int .i64 (-1)]:=KL.out.put 0 _;have Iw:=Rz.out.set Bj hwx DC DD 0 (.int .i64 42);clear hR HR2 uB Rz KL;go_upto_region 26 with fail
     generalize w7.setCell ⟨g7,0,none⟩ (.int .i64 42)=wa at Iu Iw⊢;clear f0 c0 q0 e24;have q4:=Iw.kx.cell 4;have RD:=zH Iw
     by_cases hnm:S1.toList=AS.toList
     case pos=>
      as_aux_lemma=>
      have ZK:(S1.toList==AS.toList)=true:=by rw[beq_iff_eq];exact hnm
      have hR:=HR3.out;rw[if_pos hnm]at hR;have HR4:=zH hR;have f0:=Iu.frozen 0;have c0:wa.cell? ⟨g7,0,none⟩=some (.int .i64 42):=Iu.cell 0;have RF:Bk (wa.setCell ⟨g7,0,none⟩ (.int .i64 41)) g7 76 #[.int .i64 41,.int .i64 K,.slice A j c,.int .i64 0,.int .u64 0,.int .i64 xo,.int .i64 (-1)]:=Iu.put 0 _;have hmb:=Iw.set Bj hwx DC DD 0 (.int .i64 41);have f5:=RF.frozen 5;have c5:(wa.setCell ⟨g7,0,none⟩ (.int .i64 41)).cell? ⟨g7,5,none⟩=some (.int .i64 xo):=RF.cell 5;have Wi:Bk ((wa.setCell ⟨g7,0,none⟩ (.int .i64 41)).setCell ⟨g7,5,none⟩ (.int .i64 0)) g7 76 #[.int .i64 41,.int .i64 K,.slice A j c,.int .i64 0,.int .u64 0,.int .i64 0,.int .i64 (-1)]:=RF.put 5 _;have hmc:=hmb.set Bj hwx DC DD 5 (.int .i64 0);have ZL:=zH hmc;clear hR HR3 hnm Iw RD Iu hmb RF;go_upto_region 28 with fail
      generalize(wa.setCell ⟨g7,0,none⟩ (.int .i64 41)).setCell ⟨g7,5,none⟩ (.int .i64 0)=wc at Wi hmc ZL⊢;clear f0 c0 f5 c5 q4 ZK;have kr:=hmc.kr;obtain⟨x0,x1,x2,x3,x4,x5,x6⟩:=zc7 Wi;clear Wi hmc;go_wp2_with (first|(refine ae dE rfl _ _ rfl rfl [.int .i64 41,.int .i64 K,.slice A j c,.int .i64 0,.int .u64 0,.int .i64 0,.int .i64 (-1)] rfl kr rfl rfl rfl ?_;intro w9 p9))
      obtain⟨u0,u1,u2,u3,u4,u5,u6⟩:=zc7 p9.bk;refine bodyPost_ret (v:=.agg #[.int .i64 41,.int .i64 K,.slice A j c,.int .i64 0,.int .u64 0,.int .i64 0,.int .i64 (-1)]) (by simp[results,Try.results72,go_sem,u0,u1,u2,u3,u4,u5,u6]) rfl ?_;obtain rfl:=HR4.out;have:=ZL.out.node HLEN.out hk2 (by omega) Qx.out GZ.out (by decide) VY.out p9;exact⟨_,rfl,this.1,this.2⟩
     case neg=>
      as_aux_lemma=>
      have ZK:(S1.toList==AS.toList)=false:=by rw[beq_eq_false_iff_ne];exact hnm
      have hR:=HR3.out;rw[if_neg hnm]at hR;have HR4:=zH hR;have kr:=Iw.kr;obtain⟨x0,x1,x2,x3,x4,x5,x6⟩:=zc7 Iu;clear hR HR3 hnm Iw Iu;go_wp2_with (first|(refine ae dE rfl _ _ rfl rfl [.int .i64 42,.int .i64 K,.slice A j c,.int .i64 0,.int .u64 0,.int .i64 xo,.int .i64 (-1)] rfl kr rfl rfl rfl ?_;intro w9 p9))
      obtain⟨u0,u1,u2,u3,u4,u5,u6⟩:=zc7 p9.bk;refine bodyPost_ret (v:=.agg #[.int .i64 42,.int .i64 K,.slice A j c,.int .i64 0,.int .u64 0,.int .i64 xo,.int .i64 (-1)]) (by simp[results,Try.results72,go_sem,u0,u1,u2,u3,u4,u5,u6]) rfl ?_;obtain rfl:=HR4.out;have:=RD.out.node HLEN.out hk2 (by omega) Qx.out GZ.out (by decide) VY.out p9;exact⟨_,rfl,this.1,this.2⟩
    case neg=>
     as_aux_lemma=>
     have e24:((op:Int)==24)=false:=by rw[beq_eq_false_iff_ne];omega
     have hR:=HR2.out;rw[if_neg uB]at hR;have HR3:=zH hR;have kr:=Rz.out.kr;have ZM:=KL.out;obtain⟨x0,x1,x2,x3,x4,x5,x6⟩:=zc7 ZM;clear hR HR2 uB KL ZM;go_wp2_with (first|(refine ae dE rfl _ _ rfl rfl [.int .i64 op,.int .i64 K,.slice A j c,.int .i64 0,.int .u64 0,.int .i64 xo,.int .i64 (-1)] rfl kr rfl rfl rfl ?_;intro w9 p9))
     obtain⟨u0,u1,u2,u3,u4,u5,u6⟩:=zc7 p9.bk;refine bodyPost_ret (v:=.agg #[.int .i64 op,.int .i64 K,.slice A j c,.int .i64 0,.int .u64 0,.int .i64 xo,.int .i64 (-1)]) (by simp[results,Try.results72,go_sem,u0,u1,u2,u3,u4,u5,u6]) rfl ?_;obtain rfl:=HR3.out;have:=Rz.out.node HLEN.out hk2 (by omega) Qx.out GZ.out (by decide) VY.out p9;exact⟨_,rfl,this.1,this.2⟩
   case false=>
    have hat:FP=bQ s xk S2.toList:=by
     rw[<-OE.out,if_pos];intro he;rw[he]at Eh;exact absurd Eh (by decide)
    have htn:(S2.toList !=[84,73,77,69])=true:=htn;obtain⟨HATA⟩:Nonempty (Hid (FP=bQ s xk S2.toList)):=⟨zH hat⟩
    have ZN:Hid (∀(W':World),Below w.heap.size w W'->Calls Try.prog 69 #[.agg #[.slice s.ta s.types.length s.tc,.slice s.sa s.syms.length s.sc],.int .i64 xk,.string S2] W' fun e w'=>e=.returned (.int .i64 FP)/\Below W'.heap.size W' w'):=zH fun W' h=>by rw[hat];exact HAT.out W' h
    have s0:w7.cell? ⟨b,0,none⟩=some (.slice s.ta s.types.length s.tc):=(HM.out.old Qy.bel).bk.cell 0;have s1:w7.cell? ⟨b,1,none⟩=some (.slice s.sa s.syms.length s.sc):=(HM.out.old Qy.bel).bk.cell 1;have y5:w7.cell? ⟨gi,5,none⟩=some (.int .i64 xk):=ki7.cell 5;have x5:w7.cell? ⟨bx,5,none⟩=some (.string S2):=Qy.kx.cell 5;clear OE HAT hat HATA;go_upto_region 23 with fail
    clear htn Eh q5;refine cZ 8 (fun k=>false) (by kernel_rfl) (fun qk=>(VV b bx gi s xk S2).getD qk .any) (by kernel_rfl) ?_ ?_
    ·refine aj.cons rfl [] [0] rfl rfl (by kernel_rfl) (by kernel_rfl) (fun qK qa wr hB qO qF hK=>?_) ?_
     ·have e0:qa.tmps[0]? =some (.pointer (some ⟨b,0,none⟩)):=qO.1.trans rfl;clear qO qF;go_simp;exact hK _ _ zR rfl
     refine aj.cons rfl [0] [] rfl rfl (by kernel_rfl) (by kernel_rfl) (fun qK qa wr hB qO qF hK=>?_) ?_
     ·have e105:=aH qF.1 rfl rfl;clear qO qF;go_simp;exact hK _ _ zR rfl
     refine aj.cons rfl [1] [] rfl rfl (by kernel_rfl) (by kernel_rfl) (fun qK qa wr hB qO qF hK=>?_) ?_
     ·have e106:=aH qF.1 rfl rfl;clear qO qF;go_simp;exact hK _ _ zR rfl
     refine aj.cons rfl [2] [] rfl rfl (by kernel_rfl) (by kernel_rfl) (fun qK qa wr hB qO qF hK=>?_) ?_
     ·have e107:=aH qF.1 rfl rfl;clear qO qF;have hs0:=zE hB s0;have hs1:=zE hB s1;go_simp;exact hK _ _ zR rfl
     refine aj.cons rfl [] [10] rfl rfl (by kernel_rfl) (by kernel_rfl) (fun qK qa wr hB qO qF hK=>?_) ?_
     ·have e10:qa.tmps[10]? =some (.pointer (some ⟨gi,0,none⟩)):=qO.1.trans rfl;clear qO qF;go_simp;exact hK _ _ zR rfl
     refine aj.cons rfl [4] [] rfl rfl (by kernel_rfl) (by kernel_rfl) (fun qK qa wr hB qO qF hK=>?_) ?_
     ·have e109:=aH qF.1 rfl rfl;clear qO qF;have hy5:=zE hB y5;go_simp;exact hK _ _ zR rfl
     refine aj.cons rfl [] [4] rfl rfl (by kernel_rfl) (by kernel_rfl) (fun qK qa wr hB qO qF hK=>?_) ?_
     ·have e4:qa.tmps[4]? =some (.pointer (some ⟨bx,0,none⟩)):=qO.1.trans rfl;clear qO qF;go_simp;exact hK _ _ zR rfl
     refine aj.cons rfl [6] [] rfl rfl (by kernel_rfl) (by kernel_rfl) (fun qK qa wr hB qO qF hK=>?_) ?_
     ·have e111:=aH qF.1 rfl rfl;clear qO qF;have hx5:=zE hB x5;go_simp;exact hK _ _ zR rfl
     exact aj.nil
    intro vals wr hl hB hR hS
    match vals,hl with
    |[z105,z106,z107,z108,z109,z110,z111,z112],_=>
    have r3:z108=.agg #[.slice s.ta s.types.length s.tc,.slice s.sa s.syms.length s.sc]:=hR 3 _ rfl;subst r3;have r5:z110=.int .i64 xk:=hR 5 _ rfl;subst r5;have r7:z112=.string S2:=hR 7 _ rfl;subst r7;clear hS;clear hR;simp only[List.take_succ_cons,List.take_zero,List.drop_succ_cons,List.drop_zero,List.toList_toArray,List.cons_append,List.nil_append,aN,Act.put,List.setIfInBounds_toArray,List.set_cons_zero,List.set_cons_succ];have kn8:=ZJ.old hB;have ZO:=Qy.old hB;clear hB s0 s1 y5 x5 ZJ Qy ki7;have HM8:=zH ZO;have ZP:=zH kn8;clear kn8 ZO HM;go_wp2_with fail
    refine(ZN.out wr HM8.out.bel).mono ?_;rintro r w8 ⟨rfl,hb8⟩;have kn8:=ZP.out.old hb8;have ZO:=HM8.out.old hb8;have f6:=kn8.frozen 6;have c6:w8.cell? ⟨g7,6,none⟩=some (.int .i64 (-1)):=kn8.cell 6;have kn9:Bk (w8.setCell ⟨g7,6,none⟩ (.int .i64 FP)) g7 76 #[.int .i64 op,.int .i64 K,.slice A j c,.int .i64 0,.int .u64 0,.int .i64 xo,.int .i64 FP]:=kn8.put 6 _;have hm9:=ZO.set Bj hwx DC DD 6 (.int .i64 FP);clear ZN hb8 HM8 ZP kn8 ZO;go_upto_region 24 with fail
    generalize w8.setCell ⟨g7,6,none⟩ (.int .i64 FP)=w9x at kn9 hm9⊢;clear f6 c6;have Rz:=zH hm9;have KL:=zH kn9;have q0:=hm9.kx.cell 0;clear hm9 kn9
    by_cases uB:op=24
    case pos=>
     have e24:((op:Int)==24)=true:=by rw[beq_iff_eq];omega
     have hR:=HR2.out;rw[if_pos uB]at hR;have HR3:=zH hR;have f0:=KL.out.frozen 0;have c0:w9x.cell? ⟨g7,0,none⟩=some (.int .i64 op):=KL.out.cell 0;have Iu:Bk (w9x.setCell ⟨g7,0,none⟩ (.int .i64 42)) g7 76 #[.int .i64 42,.int .i64 K,.slice A j c,.int .i64 0,.int .u64 0,.int .i64 xo,.int .i64 (FP)]:=KL.out.put 0 _;have Iw:=Rz.out.set Bj hwx DC DD 0 (.int .i64 42);clear hR HR2 uB Rz KL;go_upto_region 26 with fail
     generalize w9x.setCell ⟨g7,0,none⟩ (.int .i64 42)=wa at Iu Iw⊢;clear f0 c0 q0 e24;have q4:=Iw.kx.cell 4;have RD:=zH Iw
     by_cases hnm:S1.toList=AS.toList
     case pos=>
      as_aux_lemma=>
      have ZK:(S1.toList==AS.toList)=true:=by rw[beq_iff_eq];exact hnm
      have hR:=HR3.out;rw[if_pos hnm]at hR;have HR4:=zH hR;have f0:=Iu.frozen 0;have c0:wa.cell? ⟨g7,0,none⟩=some (.int .i64 42):=Iu.cell 0;have RF:Bk (wa.setCell ⟨g7,0,none⟩ (.int .i64 41)) g7 76 #[.int .i64 41,.int .i64 K,.slice A j c,.int .i64 0,.int .u64 0,.int .i64 xo,.int .i64 (FP)]:=Iu.put 0 _;have hmb:=Iw.set Bj hwx DC DD 0 (.int .i64 41);have f5:=RF.frozen 5;have c5:(wa.setCell ⟨g7,0,none⟩ (.int .i64 41)).cell? ⟨g7,5,none⟩=some (.int .i64 xo):=RF.cell 5;have Wi:Bk ((wa.setCell ⟨g7,0,none⟩ (.int .i64 41)).setCell ⟨g7,5,none⟩ (.int .i64 0)) g7 76 #[.int .i64 41,.int .i64 K,.slice A j c,.int .i64 0,.int .u64 0,.int .i64 0,.int .i64 (FP)]:=RF.put 5 _;have hmc:=hmb.set Bj hwx DC DD 5 (.int .i64 0);have ZL:=zH hmc;clear hR HR3 hnm Iw RD Iu hmb RF;go_upto_region 28 with fail
      generalize(wa.setCell ⟨g7,0,none⟩ (.int .i64 41)).setCell ⟨g7,5,none⟩ (.int .i64 0)=wc at Wi hmc ZL⊢;clear f0 c0 f5 c5 q4 ZK;have kr:=hmc.kr;obtain⟨x0,x1,x2,x3,x4,x5,x6⟩:=zc7 Wi;clear Wi hmc;go_wp2_with (first|(refine ae dE rfl _ _ rfl rfl [.int .i64 41,.int .i64 K,.slice A j c,.int .i64 0,.int .u64 0,.int .i64 0,.int .i64 (FP)] rfl kr rfl rfl rfl ?_;intro w9 p9))
      obtain⟨u0,u1,u2,u3,u4,u5,u6⟩:=zc7 p9.bk;refine bodyPost_ret (v:=.agg #[.int .i64 41,.int .i64 K,.slice A j c,.int .i64 0,.int .u64 0,.int .i64 0,.int .i64 (FP)]) (by simp[results,Try.results72,go_sem,u0,u1,u2,u3,u4,u5,u6]) rfl ?_;obtain rfl:=HR4.out;have:=ZL.out.node HLEN.out hk2 (by omega) Qx.out GZ.out (by decide) VY.out p9;exact⟨_,rfl,this.1,this.2⟩
     case neg=>
      as_aux_lemma=>
      have ZK:(S1.toList==AS.toList)=false:=by rw[beq_eq_false_iff_ne];exact hnm
      have hR:=HR3.out;rw[if_neg hnm]at hR;have HR4:=zH hR;have kr:=Iw.kr;obtain⟨x0,x1,x2,x3,x4,x5,x6⟩:=zc7 Iu;clear hR HR3 hnm Iw Iu;go_wp2_with (first|(refine ae dE rfl _ _ rfl rfl [.int .i64 42,.int .i64 K,.slice A j c,.int .i64 0,.int .u64 0,.int .i64 xo,.int .i64 (FP)] rfl kr rfl rfl rfl ?_;intro w9 p9))
      obtain⟨u0,u1,u2,u3,u4,u5,u6⟩:=zc7 p9.bk;refine bodyPost_ret (v:=.agg #[.int .i64 42,.int .i64 K,.slice A j c,.int .i64 0,.int .u64 0,.int .i64 xo,.int .i64 (FP)]) (by simp[results,Try.results72,go_sem,u0,u1,u2,u3,u4,u5,u6]) rfl ?_;obtain rfl:=HR4.out;have:=RD.out.node HLEN.out hk2 (by omega) Qx.out GZ.out (by decide) VY.out p9;exact⟨_,rfl,this.1,this.2⟩
    case neg=>
     as_aux_lemma=>
     have e24:((op:Int)==24)=false:=by rw[beq_eq_false_iff_ne];omega
     have hR:=HR2.out;rw[if_neg uB]at hR;have HR3:=zH hR;have kr:=Rz.out.kr;have ZM:=KL.out;obtain⟨x0,x1,x2,x3,x4,x5,x6⟩:=zc7 ZM;clear hR HR2 uB KL ZM;go_wp2_with (first|(refine ae dE rfl _ _ rfl rfl [.int .i64 op,.int .i64 K,.slice A j c,.int .i64 0,.int .u64 0,.int .i64 xo,.int .i64 (FP)] rfl kr rfl rfl rfl ?_;intro w9 p9))
     obtain⟨u0,u1,u2,u3,u4,u5,u6⟩:=zc7 p9.bk;refine bodyPost_ret (v:=.agg #[.int .i64 op,.int .i64 K,.slice A j c,.int .i64 0,.int .u64 0,.int .i64 xo,.int .i64 (FP)]) (by simp[results,Try.results72,go_sem,u0,u1,u2,u3,u4,u5,u6]) rfl ?_;obtain rfl:=HR3.out;have:=Rz.out.node HLEN.out hk2 (by omega) Qx.out GZ.out (by decide) VY.out p9;exact⟨_,rfl,this.1,this.2⟩
end Go.Proofs.Ytbjnhllkdilpfaa
