/- Part 8 of the proof. No conditions. -/
import Derived.Test.YtbjnhllkdilpfaaZb05
import Derived.Test.YtbjnhllkdilpfaaZb07
namespace Go.Proofs.Ytbjnhllkdilpfaa
open Go.RowKit
set_option linter.unusedSimpArgs false
set_option linter.unusedVariables false
set_option maxHeartbeats 16000000
set_option maxRecDepth 100000
theorem below_grown {w w':World} (h:Below w.heap.size w w') (row:Option Nat):w.grownBy w' row:=⟨h.os,h.tape,h.output,h.size,fun k hk _=>h.block k hk⟩
theorem aY {w w':World} {g o:Nat} {v:Value} (h:w.grownBy w' (some g)):w.grownBy (w'.setCell ⟨g,o,none⟩ v) (some g):=
 ⟨h.os,h.tape,h.output,by simpa using h.size,fun k hk hne=>(Below.heap_setCell w' _ v k (fun e=>hne (by rw[e]))).trans (h.block k hk hne)⟩
def dw (LA:Option Addr) (n c:Nat) (s:PS):List Value:=[.slice LA n c,.int .i64 s.i,.int .i64 s.opn,.int .i64 s.err,.int .i64 s.pos]
structure di (b:Nat) (t:TypeId) (rest:List Value) (L:List aA) (LA:Option Addr) (Lc:Nat) (s:PS) (w:World):Prop where
 bk:Bk w b t (dw LA L.length Lc s++rest).toArray
 rd:Rd w b LA (L.flatMap aA.cells)
section
variable {b:Nat} {t:TypeId} {rest:List Value} {L:List aA} {LA:Option Addr} {Lc:Nat} {s:PS} {w w':World}
theorem di.c0 (h:di b t rest L LA Lc s w):w.cell? ⟨b,0,none⟩=some (.slice LA L.length Lc):=by rw[h.bk.cell 0];simp[dw]
theorem di.c1 (h:di b t rest L LA Lc s w):w.cell? ⟨b,1,none⟩=some (.int .i64 s.i):=by rw[h.bk.cell 1];simp[dw]
theorem di.c2 (h:di b t rest L LA Lc s w):w.cell? ⟨b,2,none⟩=some (.int .i64 s.opn):=by rw[h.bk.cell 2];simp[dw]
theorem di.c3 (h:di b t rest L LA Lc s w):w.cell? ⟨b,3,none⟩=some (.int .i64 s.err):=by rw[h.bk.cell 3];simp[dw]
theorem di.c4 (h:di b t rest L LA Lc s w):w.cell? ⟨b,4,none⟩=some (.int .i64 s.pos):=by rw[h.bk.cell 4];simp[dw]
theorem di.old (h:di b t rest L LA Lc s w) (hb:Below w.heap.size w w'):di b t rest L LA Lc s w':=⟨h.bk.old hb,h.rd.below (hb.mono (Nat.le_of_lt h.bk.lt))⟩
theorem mW {A:Option Addr} {cs:List Value} (h:Rd w b A cs) (o:Nat) (v:Value):Rd (w.setCell ⟨b,o,none⟩ v) b A cs:=
 h.below ((Below.refl b w).setCell (p:=⟨b,o,none⟩) (Nat.le_refl b) v)
theorem di.set1 (h:di b t rest L LA Lc s w) (i:Nat):di b t rest L LA Lc ⟨i,s.opn,s.err,s.pos⟩ (w.setCell ⟨b,1,none⟩ (.int .i64 i)):=⟨by simpa[dw]using h.bk.put 1 (.int .i64 i),mW h.rd _ _⟩
theorem di.set2 (h:di b t rest L LA Lc s w) (i:Nat):di b t rest L LA Lc ⟨s.i,i,s.err,s.pos⟩ (w.setCell ⟨b,2,none⟩ (.int .i64 i)):=⟨by simpa[dw]using h.bk.put 2 (.int .i64 i),mW h.rd _ _⟩
theorem di.YD (h:di b t rest L LA Lc s w) (i:Nat):di b t rest L LA Lc ⟨s.i,s.opn,i,s.pos⟩ (w.setCell ⟨b,3,none⟩ (.int .i64 i)):=⟨by simpa[dw]using h.bk.put 3 (.int .i64 i),mW h.rd _ _⟩
theorem di.YE (h:di b t rest L LA Lc s w) (i:Nat):di b t rest L LA Lc ⟨s.i,s.opn,s.err,i⟩ (w.setCell ⟨b,4,none⟩ (.int .i64 i)):=⟨by simpa[dw]using h.bk.put 4 (.int .i64 i),mW h.rd _ _⟩
theorem di.fr (h:di b t rest L LA Lc s w) (i:Nat):w.frozen? ⟨b,i,none⟩=false:=h.bk.frozen i
theorem qE (h:s.i<L.length):bf L s=L[s.i]:=by unfold bf;simp[h]
end
@[go_sem] theorem U6 (c0 c1 c2 c3 c4:Value) (w:World):(Instr.field 102 (.agg #[c0,c1,c2,c3,c4]) 4).run Try.prog w=.ok c4 w:=by kernel_rfl
structure Steps (b:Nat) (t:TypeId) (rest:List Value) (L:List aA) (LA:Option Addr) (Lc:Nat) (s:PS) (w w':World):Prop where
 st:di b t rest L LA Lc s w'
 grown:w.grownBy w' (some b)
theorem yl (L:List aA) (s:PS) (x:Str):eQ L s x=(((bf L s).kind==1||(bf L s).kind==6)&&(bf L s).text==x):=rfl
def YF (b tb tq i:Nat) (L:List aA) (Lc:Nat) (T:aA):List Spec:=[.is (.pointer (some ⟨b,0,none⟩)),
 .is (.pointer (some ⟨b,0,none⟩)),
 .is (.pointer (some ⟨b,0,none⟩)),
 .is (.slice (some ⟨tb,tq,none⟩) L.length Lc),
 .is (.pointer (some ⟨b,0,none⟩)),
 .is (.pointer (some ⟨b,0,none⟩)),
 .is (.pointer (some ⟨b,1,none⟩)),
 .is (.int .i64 (i:Nat)),
 .is (.pointer (some ⟨tb,tq+i*5,none⟩)),
 .is (.agg #[.int .i64 T.kind,.string (bytes T.text),.int .i64 T.n,.int .i64 T.scale,.int .i64 T.pos])]
section
variable (b:Nat) (t:TypeId) (rest:List Value) (L:List aA) (LA:Option Addr) (Lc:Nat) (s:PS) (w:World)
theorem qG (h : di b t rest L LA Lc s w) (hi : s.i < L.length) (hL : L.length ≤ 4001) :
  Calls Try.prog 54 #[.pointer (some ⟨b,0,none⟩)] w fun e w'=>e=.returned (bf L s).val/\Below w.heap.size w w':=by
 obtain⟨tb,tq,hA,htb,hc⟩:=h.rd.elem (n:=5) ug (by omega) hi;rw[qE hi];have r0:w.cell? ⟨tb,tq+s.i*5,none⟩=some (.int .i64 L[s.i].kind):=hc 0 _ rfl;have r1:w.cell? ⟨tb,tq+s.i*5+1,none⟩=some (.string (bytes L[s.i].text)):=hc 1 _ rfl;have r2:w.cell? ⟨tb,tq+s.i*5+2,none⟩=some (.int .i64 L[s.i].n):=hc 2 _ rfl;have r3:w.cell? ⟨tb,tq+s.i*5+3,none⟩=some (.int .i64 L[s.i].scale):=hc 3 _ rfl;have r4:w.cell? ⟨tb,tq+s.i*5+4,none⟩=some (.int .i64 L[s.i].pos):=hc 4 _ rfl;have c0:=h.c0;have c1:=h.c1;rw[hA]at c0;have hbl:=h.bk.lt;unfold aA.val;generalize L[s.i]=T at *;generalize s.i=i at *;clear hc h hA
 go_enter Try.func54,Try.ntmps54
 go_upto_region 1 with fail
 have x0:=Bk.new w 102 #[.int .i64 0,.string ⟨#[]⟩,.int .i64 0,.int .i64 0,.int .i64 0];have hbW:Below w.heap.size w (w.alloc (.cells #[.int .i64 0,.string ⟨#[]⟩,.int .i64 0,.int .i64 0,.int .i64 0] 102)):=zR.alloc zL _;have hlt1:b<w.heap.size:=hbl;have hlt2:tb<w.heap.size:=by omega
 replace c0:=(aU hbW b 0 hlt1).trans c0;replace c1:=(aU hbW b 1 hlt1).trans c1;replace r0:=(aU hbW tb _ hlt2).trans r0;replace r1:=(aU hbW tb _ hlt2).trans r1;replace r2:=(aU hbW tb _ hlt2).trans r2;replace r3:=(aU hbW tb _ hlt2).trans r3;replace r4:=(aU hbW tb _ hlt2).trans r4;generalize w.alloc (.cells #[.int .i64 0,.string ⟨#[]⟩,.int .i64 0,.int .i64 0,.int .i64 0] 102)=W at *;refine cZ 10 (fun k=>false) (by kernel_rfl) (fun qk=>(YF b tb tq i L Lc T).getD qk .any) (by kernel_rfl) ?_ ?_
 ·refine aj.cons rfl [] [0] rfl rfl (by kernel_rfl) (by kernel_rfl) (fun qK qa wr hB qO qF hK=>?_) ?_
  ·have e0:qa.tmps[0]? =some (.pointer (some ⟨b,0,none⟩)):=qO.1.trans rfl;clear qO qF;go_simp;exact hK _ _ zR rfl
  refine aj.cons rfl [0] [] rfl rfl (by kernel_rfl) (by kernel_rfl) (fun qK qa wr hB qO qF hK=>?_) ?_
  ·have e3:=aH qF.1 rfl rfl;clear qO qF;go_simp;exact hK _ _ zR rfl
  refine aj.cons rfl [1] [] rfl rfl (by kernel_rfl) (by kernel_rfl) (fun qK qa wr hB qO qF hK=>?_) ?_
  ·have e4:=aH qF.1 rfl rfl;clear qO qF;go_simp;exact hK _ _ zR rfl
  refine aj.cons rfl [2] [] rfl rfl (by kernel_rfl) (by kernel_rfl) (fun qK qa wr hB qO qF hK=>?_) ?_
  ·have e5:=aH qF.1 rfl rfl;clear qO qF;have hc0:=zE hB c0;go_simp;exact hK _ _ zR rfl
  refine aj.cons rfl [] [0] rfl rfl (by kernel_rfl) (by kernel_rfl) (fun qK qa wr hB qO qF hK=>?_) ?_
  ·have e0:qa.tmps[0]? =some (.pointer (some ⟨b,0,none⟩)):=qO.1.trans rfl;clear qO qF;go_simp;exact hK _ _ zR rfl
  refine aj.cons rfl [4] [] rfl rfl (by kernel_rfl) (by kernel_rfl) (fun qK qa wr hB qO qF hK=>?_) ?_
  ·have e7:=aH qF.1 rfl rfl;clear qO qF;go_simp;exact hK _ _ zR rfl
  refine aj.cons rfl [5] [] rfl rfl (by kernel_rfl) (by kernel_rfl) (fun qK qa wr hB qO qF hK=>?_) ?_
  ·have e8:=aH qF.1 rfl rfl;clear qO qF;go_simp;exact hK _ _ zR rfl
  refine aj.cons rfl [6] [] rfl rfl (by kernel_rfl) (by kernel_rfl) (fun qK qa wr hB qO qF hK=>?_) ?_
  ·have e9:=aH qF.1 rfl rfl;clear qO qF;have hc1:=zE hB c1;go_simp;exact hK _ _ zR rfl
  refine aj.cons rfl [3,7] [] rfl rfl (by kernel_rfl) (by kernel_rfl) (fun qK qa wr hB qO qF hK=>?_) ?_
  ·have e6:=aH qF.1 rfl rfl;have e10:=aH qF.2.1 rfl rfl;clear qO qF;go_simp;exact hK _ _ zR rfl
  refine aj.cons rfl [8] [] rfl rfl (by kernel_rfl) (by kernel_rfl) (fun qK qa wr hB qO qF hK=>?_) ?_
  ·have e11:=aH qF.1 rfl rfl;clear qO qF;have hr0:=zE hB r0;have hr1:=zE hB r1;have hr2:=zE hB r2;have hr3:=zE hB r3;have hr4:=zE hB r4;go_simp;exact hK _ _ zR rfl
  exact aj.nil
 intro vals wr hl hB hR hS
 match vals,hl with
 |[z3,z4,z5,z6,z7,z8,z9,z10,z11,z12],_=>
 have r9:z12=.agg #[.int .i64 T.kind,.string (bytes T.text),.int .i64 T.n,.int .i64 T.scale,.int .i64 T.pos]:=hR 9 _ rfl;subst r9;clear hS;clear hR;simp only[List.take_succ_cons,List.take_zero,List.drop_succ_cons,List.drop_zero,List.toList_toArray,List.cons_append,List.nil_append,aN,Act.put,List.setIfInBounds_toArray,List.set_cons_zero,List.set_cons_succ];have y0:=x0.old hB;have hbe:=hbW.trans (hB.mono hbW.size);clear x0 hB hbW c0 c1 r0 r1 r2 r3 r4;go_wp2_with (first|(refine ae ed rfl _ _ rfl rfl [.int .i64 T.kind,.string (bytes T.text),.int .i64 T.n,.int .i64 T.scale,.int .i64 T.pos] rfl y0 rfl rfl rfl ?_;intro w9 p9))
 obtain⟨u0,u1,u2,u3,u4⟩:=zc5 p9.bk;have dZ:=p9.below _ _ hbe zL;refine bodyPost_ret (v:=.agg #[.int .i64 T.kind,.string (bytes T.text),.int .i64 T.n,.int .i64 T.scale,.int .i64 T.pos]) (by simp[results,Try.results54,go_sem,u0,u1,u2,u3,u4]) rfl ?_;exact⟨rfl,dZ⟩
theorem kL (S : ByteArray) (h : di b t rest L LA Lc s w) (hi : s.i < L.length) (hL : L.length ≤ 4001) :
  Calls Try.prog 39 #[.pointer (some ⟨b,0,none⟩),.string S] w fun e w'=>e=.returned (.bool (eQ L s S.toList))/\Below w.heap.size w w':=by
 have HT:=zH (qG b t rest L LA Lc s w h hi hL);rw[yl];unfold aA.val at HT;generalize bf L s=T at *;obtain⟨b1,h1⟩:∃x,(T.kind==1)=x:=⟨_,rfl⟩
 obtain⟨b2,h2⟩:∃x,(T.kind==6)=x:=⟨_,rfl⟩
 obtain⟨b3,h3⟩:∃x,(T.text==S.toList)=x:=⟨_,rfl⟩
 have k1:((T.kind:Int)==1)=b1:=by rw[<-h1,Bool.eq_iff_iff,beq_iff_eq,beq_iff_eq];omega
 have k2:((T.kind:Int)==6)=b2:=by rw[<-h2,Bool.eq_iff_iff,beq_iff_eq,beq_iff_eq];omega
 have k3:((bytes T.text).toList==S.toList)=b3:=by rw[aJ];exact h3
 rw[h1,h2,h3];clear h h1 h2 h3
 go_enter Try.func39,Try.ntmps39
 go_wp2_with fail
 refine HT.out.mono ?_;rintro r w2 ⟨rfl,hb2⟩;have x0:=Bk.new w2 102 #[.int .i64 T.kind,.string (bytes T.text),.int .i64 T.n,.int .i64 T.scale,.int .i64 T.pos];have hbe:=hb2.alloc hb2.size (.cells #[.int .i64 T.kind,.string (bytes T.text),.int .i64 T.n,.int .i64 T.scale,.int .i64 T.pos] 102);have u0:=x0.cell 0;have u1:=x0.cell 1;generalize bytes T.text=X at *;clear HT hb2 x0;cases b1<;>cases b2<;>cases b3<;>
 (go_wp2
  go_ret
  exact⟨rfl,hbe⟩)
theorem ku (e : Nat) (h : di b t rest L LA Lc s w) (hi : s.i < L.length) (hL : L.length ≤ 4001) :
  Calls Try.prog 42 #[.pointer (some ⟨b,0,none⟩),.int .i64 e] w fun r w'=>r=.returned (.tuple #[])/\Steps b t rest L LA Lc (aW L e s) w w':=by
 have HT:=zH (qG b t rest L LA Lc s w h hi hL);have c3:=h.c3;have HS:=zH h;unfold aW;unfold aA.val at HT;generalize bf L s=T at *
 by_cases h0:s.err=0
 ·rw[if_pos h0];have iQ:((s.err:Int)==0)=true:=by rw[h0];rfl
  clear h h0
  go_enter Try.func42,Try.ntmps42
  go_wp2_with fail
  refine HT.out.mono ?_;rintro r w2 ⟨rfl,hb2⟩;have hs2:=HS.out.old hb2;have d3:=hs2.c3;have f3:=hs2.fr 3;have hs3:=hs2.YD e;have d4:=hs3.c4;have f4:=hs3.fr 4;have hs4:=hs3.YE T.pos;have hg:=aY (o:=4) (v:=.int .i64 T.pos) (aY (o:=3) (v:=.int .i64 e) (below_grown hb2 (some b)));clear c3 HT HS hs2 hs3 hb2;go_wp2
  first|go_end0|refine bodyPost_end (v:=.tuple #[]) (by simp[results,Try.results42,go_sem]) rfl ?_
  exact⟨rfl,hs4,hg⟩
 ·rw[if_neg h0];have iQ:((s.err:Int)==0)=false:=by rw[beq_eq_false_iff_ne];omega
  clear h0
  go_enter Try.func42,Try.ntmps42
  go_wp2
  first|go_end0|refine bodyPost_end (v:=.tuple #[]) (by simp[results,Try.results42,go_sem]) rfl ?_
  exact⟨rfl,h,World.grownBy.refl _ _⟩
theorem step_next (h:di b t rest L LA Lc s w):Steps b t rest L LA Lc (aO s) w (w.setCell ⟨b,1,none⟩ (.int .i64 ((s.i:Int)+1))):=⟨h.set1 (s.i+1),aY (World.grownBy.refl _ _)⟩
theorem fM (S : ByteArray) (h : di b t rest L LA Lc s w) (hi : s.i < L.length) (hL : L.length ≤ 4001) :
  Calls Try.prog 37 #[.pointer (some ⟨b,0,none⟩),.string S] w fun r w'=>r=.returned (.tuple #[])/\Steps b t rest L LA Lc (ay L S.toList s) w w':=by
 have HI:=zH (kL b t rest L LA Lc s w S h hi hL);have jG:Hid (∀W:World,di b t rest L LA Lc s W->Calls Try.prog 42 #[.pointer (some ⟨b,0,none⟩),.int .i64 13] W fun r w'=>r=.returned (.tuple #[])/\Steps b t rest L LA Lc (aW L 13 s) W w'):=zH fun W h=>ku b t rest L LA Lc s W 13 h hi hL
 have c3:=h.c3;have HS:=zH h;unfold ay
 by_cases h0:s.err=0
 case neg=>
  rw[if_pos h0];have iQ:((s.err:Int)==0)=false:=by rw[beq_eq_false_iff_ne];omega
  clear h0 HI jG
  go_enter Try.func37,Try.ntmps37
  go_wp2
  (try simp only[Exit.inBlock,Exit.then]);refine bodyPost_ret (v:=.tuple #[]) (by simp[results,Try.results37,go_sem]) rfl ?_
  exact⟨rfl,h,World.grownBy.refl _ _⟩
 case pos=>
  rw[if_neg (by omega)];have iQ:((s.err:Int)==0)=true:=by rw[h0];rfl
  obtain⟨bi,hbi⟩:∃x,eQ L s S.toList=x:=⟨_,rfl⟩
  rw[hbi]at HI⊢;clear h h0 hbi
  go_enter Try.func37,Try.ntmps37
  go_wp2_with fail
  refine HI.out.mono ?_;rintro r w2 ⟨rfl,hb2⟩;have hs2:=HS.out.old hb2;cases bi
  ·as_aux_lemma=>
   clear c3 HI;go_wp2_with fail
   refine(jG.out _ hs2).mono ?_;rintro r w3 ⟨rfl,hst⟩;go_wp2
   (try simp only[Exit.inBlock,Exit.then]);refine bodyPost_ret (v:=.tuple #[]) (by simp[results,Try.results37,go_sem]) rfl ?_
   exact⟨rfl,hst.st,(below_grown hb2 _).trans hst.grown⟩
  ·as_aux_lemma=>
   have d1:=hs2.c1;have f1:=hs2.fr 1;have hn:=step_next b t rest L LA Lc s w2 hs2;clear c3 HI jG;go_wp2
   first|go_end0|refine bodyPost_end (v:=.tuple #[]) (by simp[results,Try.results37,go_sem]) rfl ?_
   exact⟨rfl,hn.st,(below_grown hb2 _).trans hn.grown⟩
theorem open_any (h : di b t rest L LA Lc s w) (hi : s.i < L.length) (hL : L.length ≤ 4001) (ho : s.opn ≤ 4001) :
  Calls Try.prog 98 #[.pointer (some ⟨b,0,none⟩)] w fun r w'=>r=.returned (.int .i64 ((bf L s).pos:Nat))/\Steps b t rest L LA Lc (aQ L s) w w':=by
 have HT:=zH (qG b t rest L LA Lc s w h hi hL);have jG:Hid (∀W:World,di b t rest L LA Lc s W->Calls Try.prog 42 #[.pointer (some ⟨b,0,none⟩),.int .i64 14] W fun r w'=>r=.returned (.tuple #[])/\Steps b t rest L LA Lc (aW L 14 s) W w'):=zH fun W h=>ku b t rest L LA Lc s W 14 h hi hL
 have c2:=h.c2;have HS:=zH h;unfold aQ;have hfi:(aW L 14 s).i=s.i/\(aW L 14 s).opn=s.opn:=by unfold aW;split<;>exact⟨rfl,rfl⟩
 generalize aW L 14 s=s1 at *;unfold aA.val at HT;generalize bf L s=T at *
 by_cases h0:s.opn=30
 case neg=>
  rw[if_neg h0];have iQ:((s.opn:Int)==30)=false:=by rw[beq_eq_false_iff_ne];omega
  clear h h0 jG hfi
  go_enter Try.func98,Try.ntmps98
  go_wp2_with fail
  refine HT.out.mono ?_;rintro r w2 ⟨rfl,hb2⟩;have hs2:=HS.out.old hb2;have d2:=hs2.c2;have f2:=hs2.fr 2;have hs3:=hs2.set2 (s.opn+1);have d1:=hs3.c1;have f1:=hs3.fr 1;have hs4:=hs3.set1 (s.i+1);have hg:=aY (o:=1) (v:=.int .i64 ((s.i+1:Nat):Int)) (aY (o:=2) (v:=.int .i64 ((s.opn+1:Nat):Int)) (below_grown hb2 (some b)));rw[show((s.opn+1:Nat):Int)=(s.opn:Int)+1 by omega]at hs4 hg d1 f1;rw[show((s.i+1:Nat):Int)=(s.i:Int)+1 by omega]at hs4 hg;clear c2 HT hs2 hb2 hs3 HS;go_wp2
  go_ret
  exact⟨rfl,hs4,hg⟩
 case pos=>
  rw[if_pos h0];have iQ:((s.opn:Int)==30)=true:=by rw[h0];rfl
  clear h
  go_enter Try.func98,Try.ntmps98
  go_wp2_with fail
  refine HT.out.mono ?_;rintro r w2 ⟨rfl,hb2⟩;have hs2:=HS.out.old hb2;have d2:=hs2.c2;clear c2 HT;go_wp2_with fail
  refine(jG.out _ hs2).mono ?_;rintro r w3 ⟨rfl,hs3,hg3⟩;have hg:=(below_grown hb2 (some b)).trans hg3;obtain⟨e1,e2⟩:=hfi;have ho1:s1.opn<=4001:=by omega
  have hi1:s1.i<L.length:=by omega
  have d2':=hs3.c2;have f2:=hs3.fr 2;have hs4:=hs3.set2 (s1.opn+1);have d1:=hs4.c1;have f1:=hs4.fr 1;have hs5:=hs4.set1 (s1.i+1);have hgg:=aY (o:=1) (v:=.int .i64 ((s1.i+1:Nat):Int)) (aY (o:=2) (v:=.int .i64 ((s1.opn+1:Nat):Int)) hg);rw[show((s1.opn+1:Nat):Int)=(s1.opn:Int)+1 by omega]at hs5 hgg d1 f1;rw[show((s1.i+1:Nat):Int)=(s1.i:Int)+1 by omega]at hs5 hgg;clear d2 hs2 hb2 hs3 hg3 hg hs4 HS jG e1 e2 h0 iQ;go_wp2
  go_ret
  exact⟨rfl,hs5,hgg⟩
theorem name_any (h : di b t rest L LA Lc s w) (hi : s.i < L.length) (hL : L.length ≤ 4001) :
  Calls Try.prog 104 #[.pointer (some ⟨b,0,none⟩)] w fun r w'=>r=.returned (.string (bytes (fZ L s).1))/\Steps b t rest L LA Lc (fZ L s).2 w w':=by
 have HT:=zH (qG b t rest L LA Lc s w h hi hL);have jG:Hid (∀W:World,di b t rest L LA Lc s W->Calls Try.prog 42 #[.pointer (some ⟨b,0,none⟩),.int .i64 13] W fun r w'=>r=.returned (.tuple #[])/\Steps b t rest L LA Lc (aW L 13 s) W w'):=zH fun W h=>ku b t rest L LA Lc s W 13 h hi hL
 have c3:=h.c3;have HS:=zH h;unfold fZ
 by_cases h0:s.err=0
 case neg=>
  rw[if_pos h0];have iQ:((s.err:Int)==0)=false:=by rw[beq_eq_false_iff_ne];omega
  clear h0 HT jG
  go_enter Try.func104,Try.ntmps104
  go_wp2
  go_ret
  exact⟨rfl,h,World.grownBy.refl _ _⟩
 case pos=>
  rw[if_neg (by omega)];have iQ:((s.err:Int)==0)=true:=by rw[h0];rfl
  unfold aA.val at HT;generalize bf L s=T at *;clear h h0
  by_cases hk:T.kind=2
  ·as_aux_lemma=>
   rw[if_pos hk];have J8:((T.kind:Int)==2)=true:=by rw[hk];rfl
   go_enter Try.func104,Try.ntmps104
   go_wp2_with fail
   refine HT.out.mono ?_;rintro r w2 ⟨rfl,hb2⟩;have x0:=Bk.new w2 102 #[.int .i64 T.kind,.string (bytes T.text),.int .i64 T.n,.int .i64 T.scale,.int .i64 T.pos];have fV:Below w2.heap.size w2 (w2.alloc (.cells #[.int .i64 T.kind,.string (bytes T.text),.int .i64 T.n,.int .i64 T.scale,.int .i64 T.pos] 102)):=zR.alloc zL _;have hbe:=hb2.trans (fV.mono hb2.size);have hs3:=(HS.out.old hb2).old fV;have hne:b≠w2.heap.size:=by have:=(HS.out.old hb2).bk.lt;omega
   have u0:=x0.cell 0;have d1:=hs3.c1;have f1:=hs3.fr 1;have u1:=(x0.far (p:=⟨b,1,none⟩) (Ne.symm hne) (.int .i64 ((s.i:Int)+1))).cell 1;have hn:=step_next b t rest L LA Lc s _ hs3;have hg:=(below_grown hbe (some b)).trans hn.grown;replace hn:=hn.st;clear c3 HT jG hb2 fV hs3 hk x0 HS hbe;go_wp2
   go_ret
   exact⟨rfl,hn,hg⟩
  ·as_aux_lemma=>
   rw[if_neg hk];have J8:((T.kind:Int)==2)=false:=by rw[beq_eq_false_iff_ne];omega
   go_enter Try.func104,Try.ntmps104
   go_wp2_with fail
   refine HT.out.mono ?_;rintro r w2 ⟨rfl,hb2⟩;have x0:=Bk.new w2 102 #[.int .i64 T.kind,.string (bytes T.text),.int .i64 T.n,.int .i64 T.scale,.int .i64 T.pos];have fV:Below w2.heap.size w2 (w2.alloc (.cells #[.int .i64 T.kind,.string (bytes T.text),.int .i64 T.n,.int .i64 T.scale,.int .i64 T.pos] 102)):=zR.alloc zL _;have hbe:=hb2.trans (fV.mono hb2.size);have hs3:=(HS.out.old hb2).old fV;have hne:b≠w2.heap.size:=by have:=(HS.out.old hb2).bk.lt;omega
   have u0:=x0.cell 0;clear c3 HT hb2 fV hk x0;go_wp2_with fail
   refine(jG.out _ hs3).mono ?_;rintro r w4 ⟨rfl,hs4,hg4⟩;have hg:=(below_grown hbe (some b)).trans hg4;clear jG HS hbe hg4 hs3;go_wp2
   go_ret
   exact⟨rfl,hs4,hg⟩
end
end Go.Proofs.Ytbjnhllkdilpfaa
