/- Part 10 of the proof. No conditions. -/
import Derived.Test.YtbjnhllkdilpfaaZc09
import Derived.Test.YtbjnhllkdilpfaaZc04
namespace Go.Proofs.Ytbjnhllkdilpfaa
open Go.RowKit
set_option maxRecDepth 100000
set_option maxHeartbeats 16000000
set_option linter.unusedVariables false
set_option linter.unusedSimpArgs false
theorem bF {w w':World} {g o:Nat} {v:Value} (h:w.grownBy w' (some g)):w.grownBy (w'.setCell ⟨g,o,none⟩ v) (some g):=
 ⟨h.os,h.tape,h.output,by simpa using h.size,fun k hk hne=>(Below.heap_setCell w' _ v k (fun e=>hne (by rw[e]))).trans (h.block k hk hne)⟩
def bZ (LA:Option Addr) (n c:Nat) (s:PS):List Value:=[.slice LA n c,.int .i64 s.i,.int .i64 s.opn,.int .i64 s.err,.int .i64 s.pos]
structure dh (b:Nat) (t:TypeId) (rest:List Value) (L:List az) (LA:Option Addr) (Lc:Nat) (s:PS) (w:World):Prop where
 bk:Bk w b t (bZ LA L.length Lc s++rest).toArray
 rd:Rd w b LA (L.flatMap az.cells)
section
variable {b:Nat} {t:TypeId} {rest:List Value} {L:List az} {LA:Option Addr} {Lc:Nat} {s:PS} {w w':World}
theorem dh.c0 (h:dh b t rest L LA Lc s w):w.cell? ⟨b,0,none⟩=some (.slice LA L.length Lc):=by rw[h.bk.cell 0];simp[bZ]
theorem dh.c1 (h:dh b t rest L LA Lc s w):w.cell? ⟨b,1,none⟩=some (.int .i64 s.i):=by rw[h.bk.cell 1];simp[bZ]
theorem dh.c2 (h:dh b t rest L LA Lc s w):w.cell? ⟨b,2,none⟩=some (.int .i64 s.opn):=by rw[h.bk.cell 2];simp[bZ]
theorem dh.c3 (h:dh b t rest L LA Lc s w):w.cell? ⟨b,3,none⟩=some (.int .i64 s.err):=by rw[h.bk.cell 3];simp[bZ]
theorem dh.c4 (h:dh b t rest L LA Lc s w):w.cell? ⟨b,4,none⟩=some (.int .i64 s.pos):=by rw[h.bk.cell 4];simp[bZ]
theorem dh.old (h:dh b t rest L LA Lc s w) (hb:Below w.heap.size w w'):dh b t rest L LA Lc s w':=⟨h.bk.old hb,h.rd.below (hb.mono (Nat.le_of_lt h.bk.lt))⟩
theorem nJ {A:Option Addr} {cs:List Value} (h:Rd w b A cs) (o:Nat) (v:Value):Rd (w.setCell ⟨b,o,none⟩ v) b A cs:=
 h.below ((Below.refl b w).setCell (p:=⟨b,o,none⟩) (Nat.le_refl b) v)
theorem dh.set1 (h:dh b t rest L LA Lc s w) (i:Nat):dh b t rest L LA Lc ⟨i,s.opn,s.err,s.pos⟩ (w.setCell ⟨b,1,none⟩ (.int .i64 i)):=⟨by simpa[bZ]using h.bk.put 1 (.int .i64 i),nJ h.rd _ _⟩
theorem dh.set2 (h:dh b t rest L LA Lc s w) (i:Nat):dh b t rest L LA Lc ⟨s.i,i,s.err,s.pos⟩ (w.setCell ⟨b,2,none⟩ (.int .i64 i)):=⟨by simpa[bZ]using h.bk.put 2 (.int .i64 i),nJ h.rd _ _⟩
theorem dh.set3 (h:dh b t rest L LA Lc s w) (i:Nat):dh b t rest L LA Lc ⟨s.i,s.opn,i,s.pos⟩ (w.setCell ⟨b,3,none⟩ (.int .i64 i)):=⟨by simpa[bZ]using h.bk.put 3 (.int .i64 i),nJ h.rd _ _⟩
theorem dh.set4 (h:dh b t rest L LA Lc s w) (i:Nat):dh b t rest L LA Lc ⟨s.i,s.opn,s.err,i⟩ (w.setCell ⟨b,4,none⟩ (.int .i64 i)):=⟨by simpa[bZ]using h.bk.put 4 (.int .i64 i),nJ h.rd _ _⟩
theorem dh.fr (h:dh b t rest L LA Lc s w) (i:Nat):w.frozen? ⟨b,i,none⟩=false:=h.bk.frozen i
theorem rX (h:s.i<L.length):aY L s=L[s.i]:=by unfold aY;simp[h]
end
@[go_sem] theorem Ym (c0 c1 c2 c3 c4:Value) (w:World):(Instr.field 102 (.agg #[c0,c1,c2,c3,c4]) 4).run Try.prog w=.ok c4 w:=by kernel_rfl
structure Steps (b:Nat) (t:TypeId) (rest:List Value) (L:List az) (LA:Option Addr) (Lc:Nat) (s:PS) (w w':World):Prop where
 st:dh b t rest L LA Lc s w'
 grown:w.grownBy w' (some b)
theorem zA (L:List az) (s:PS) (x:Str):eX L s x=(((aY L s).kind==1||(aY L s).kind==6)&&(aY L s).text==x):=rfl
section
variable (b:Nat) (t:TypeId) (rest:List Value) (L:List az) (LA:Option Addr) (Lc:Nat) (s:PS) (w:World)
theorem rY (h : dh b t rest L LA Lc s w) (hi : s.i < L.length) (hL : L.length ≤ 4001) :
  Calls Try.prog 54 #[.pointer (some ⟨b,0,none⟩)] w fun e w'=>e=.returned (aY L s).val/\Below w.heap.size w w':=by
 obtain⟨tb,tq,hA,htb,hc⟩:=h.rd.elem (n:=5) vS (by omega) hi;rw[rX hi];have r0:w.cell? ⟨tb,tq+s.i*5,none⟩=some (.int .i64 L[s.i].kind):=hc 0 _ rfl;have r1:w.cell? ⟨tb,tq+s.i*5+1,none⟩=some (.string (bytes L[s.i].text)):=hc 1 _ rfl;have r2:w.cell? ⟨tb,tq+s.i*5+2,none⟩=some (.int .i64 L[s.i].n):=hc 2 _ rfl;have r3:w.cell? ⟨tb,tq+s.i*5+3,none⟩=some (.int .i64 L[s.i].scale):=hc 3 _ rfl;have r4:w.cell? ⟨tb,tq+s.i*5+4,none⟩=some (.int .i64 L[s.i].pos):=hc 4 _ rfl;have c0:=h.c0;have c1:=h.c1;rw[hA]at c0;have hbl:=h.bk.lt;unfold az.val;generalize L[s.i]=T at *;generalize s.i=i at *;clear hc h hA
 go_enter Try.func54,Try.ntmps54
 go_upto_region 1 with fail
 have x0:=Bk.new w 102 #[.int .i64 0,.string ⟨#[]⟩,.int .i64 0,.int .i64 0,.int .i64 0];have hbW:Below w.heap.size w (w.alloc (.cells #[.int .i64 0,.string ⟨#[]⟩,.int .i64 0,.int .i64 0,.int .i64 0] 102)):=zR.alloc zL _;have hlt1:b<w.heap.size:=hbl;have hlt2:tb<w.heap.size:=by omega
 replace c0:=(aT hbW b 0 hlt1).trans c0;replace c1:=(aT hbW b 1 hlt1).trans c1;replace r0:=(aT hbW tb _ hlt2).trans r0;replace r1:=(aT hbW tb _ hlt2).trans r1;replace r2:=(aT hbW tb _ hlt2).trans r2;replace r3:=(aT hbW tb _ hlt2).trans r3;replace r4:=(aT hbW tb _ hlt2).trans r4;generalize w.alloc (.cells #[.int .i64 0,.string ⟨#[]⟩,.int .i64 0,.int .i64 0,.int .i64 0] 102)=W at *
 refine wx (fun k => false) [.is (.pointer (some ⟨b, 0, none⟩)),
   .is (.pointer (some ⟨b,0,none⟩)),
   .is (.pointer (some ⟨b,0,none⟩)),
   .is (.slice (some ⟨tb,tq,none⟩) L.length Lc),
   .is (.pointer (some ⟨b,0,none⟩)),
   .is (.pointer (some ⟨b,0,none⟩)),
   .is (.pointer (some ⟨b,1,none⟩)),
   .is (.int .i64 (i:Nat)),
   .is (.pointer (some ⟨tb,tq+i*5,none⟩)),
   .is (.agg #[.int .i64 T.kind,.string (bytes T.text),.int .i64 T.n,.int .i64 T.scale,.int .i64 T.pos])] [8,9] (by kernel_rfl) (by kernel_rfl) (by kernel_rfl)
   (fun C=>.c (px C rfl (fun _ _=>rfl)) <|
   .c (px C rfl (fun _ _=>rfl)) <|
   .c (px C rfl (fun _ _=>rfl)) <|
   .c (px C rfl (fun _ h=>bW (U5 (bc h c0)))) <|
   .c (px C rfl (fun _ _=>rfl)) <|
   .c (px C rfl (fun _ _=>rfl)) <|
   .c (px C rfl (fun _ _=>rfl)) <|
   .c (px C rfl (fun _ h=>bW (lJ (bc h c1)))) <|
   .c (pz [3,7] [] (by kernel_rfl) fun qK qa wr hB qO qF hK=>?_) <|
   .c (pz [8] [] (by kernel_rfl) fun qK qa wr hB qO qF hK=>?_) <| .nil) ?_
 ·have e6:=ay qF.1 rfl rfl;have e10:=ay qF.2.1 rfl rfl;clear qO qF;go_simp;exact hK _ _ zR rfl
 ·have e11:=ay qF.1 rfl rfl;clear qO qF;have hr0:=zE hB r0;have hr1:=zE hB r1;have hr2:=zE hB r2;have hr3:=zE hB r3;have hr4:=zE hB r4;go_simp;exact hK _ _ zR rfl
 intro qx wr hB hR hS;clear hR hS;simp only[bJ,List.take_succ_cons,List.take_zero,List.drop_succ_cons,List.drop_zero,List.toList_toArray,List.length_cons,List.length_nil,Act.put,List.setIfInBounds_toArray,List.set_cons_zero,List.set_cons_succ];have y0:=x0.old hB;have hbe:=hbW.trans (hB.mono hbW.size);clear x0 hB hbW c0 c1 r0 r1 r2 r3 r4;go_wp2_with (first|(refine ae eF rfl _ _ rfl rfl [.int .i64 T.kind,.string (bytes T.text),.int .i64 T.n,.int .i64 T.scale,.int .i64 T.pos] rfl y0 rfl rfl rfl ?_;intro w9 p9))
 obtain⟨u0,u1,u2,u3,u4⟩:=zc5 p9.bk;have dO:=p9.below _ _ hbe zL;refine bodyPost_ret (v:=.agg #[.int .i64 T.kind,.string (bytes T.text),.int .i64 T.n,.int .i64 T.scale,.int .i64 T.pos]) (by simp[results,Try.results54,go_sem,u0,u1,u2,u3,u4]) rfl ?_;exact⟨rfl,dO⟩
theorem lu (S : ByteArray) (h : dh b t rest L LA Lc s w) (hi : s.i < L.length) (hL : L.length ≤ 4001) :
  Calls Try.prog 39 #[.pointer (some ⟨b,0,none⟩),.string S] w fun e w'=>e=.returned (.bool (eX L s S.toList))/\Below w.heap.size w w':=by
 have HT:=zH (rY b t rest L LA Lc s w h hi hL);rw[zA];unfold az.val at HT;generalize aY L s=T at *;obtain⟨b1,h1⟩:∃x,(T.kind==1)=x:=⟨_,rfl⟩
 obtain⟨b2,h2⟩:∃x,(T.kind==6)=x:=⟨_,rfl⟩
 obtain⟨b3,h3⟩:∃x,(T.text==S.toList)=x:=⟨_,rfl⟩
 have k1:((T.kind:Int)==1)=b1:=by rw[<-h1,Bool.eq_iff_iff,beq_iff_eq,beq_iff_eq];omega
 have k2:((T.kind:Int)==6)=b2:=by rw[<-h2,Bool.eq_iff_iff,beq_iff_eq,beq_iff_eq];omega
 have k3:((bytes T.text).toList==S.toList)=b3:=by rw[aF];exact h3
 rw[h1,h2,h3];clear h h1 h2 h3
 go_enter Try.func39,Try.ntmps39
 go_wp2_with fail
 refine HT.out.mono ?_;rintro r w2 ⟨rfl,hb2⟩;have x0:=Bk.new w2 102 #[.int .i64 T.kind,.string (bytes T.text),.int .i64 T.n,.int .i64 T.scale,.int .i64 T.pos];have hbe:=hb2.alloc hb2.size (.cells #[.int .i64 T.kind,.string (bytes T.text),.int .i64 T.n,.int .i64 T.scale,.int .i64 T.pos] 102);have u0:=x0.cell 0;have u1:=x0.cell 1;generalize bytes T.text=X at *;clear HT hb2 x0;cases b1<;>cases b2<;>cases b3<;>
 (go_wp2
  go_ret
  exact⟨rfl,hbe⟩)
theorem kU (e : Nat) (h : dh b t rest L LA Lc s w) (hi : s.i < L.length) (hL : L.length ≤ 4001) :
  Calls Try.prog 42 #[.pointer (some ⟨b,0,none⟩),.int .i64 e] w fun r w'=>r=.returned (.tuple #[])/\Steps b t rest L LA Lc (aS L e s) w w':=by
 have HT:=zH (rY b t rest L LA Lc s w h hi hL);have c3:=h.c3;have HS:=zH h;unfold aS;unfold az.val at HT;generalize aY L s=T at *
 by_cases h0:s.err=0
 ·rw[if_pos h0];have iV:((s.err:Int)==0)=true:=by rw[h0];rfl
  clear h h0
  go_enter Try.func42,Try.ntmps42
  go_wp2_with fail
  refine HT.out.mono ?_;rintro r w2 ⟨rfl,hb2⟩;have hs2:=HS.out.old hb2;have d3:=hs2.c3;have f3:=hs2.fr 3;have hs3:=hs2.set3 e;have d4:=hs3.c4;have f4:=hs3.fr 4;have hs4:=hs3.set4 T.pos;have hg:=bF (o:=4) (v:=.int .i64 T.pos) (bF (o:=3) (v:=.int .i64 e) (below_grown hb2 (some b)));clear c3 HT HS hs2 hs3 hb2;go_wp2
  first|go_end0|refine bodyPost_end (v:=.tuple #[]) (by simp[results,Try.results42,go_sem]) rfl ?_
  exact⟨rfl,hs4,hg⟩
 ·rw[if_neg h0];have iV:((s.err:Int)==0)=false:=zB (by omega)
  clear h0
  go_enter Try.func42,Try.ntmps42
  go_wp2
  first|go_end0|refine bodyPost_end (v:=.tuple #[]) (by simp[results,Try.results42,go_sem]) rfl ?_
  exact⟨rfl,h,World.grownBy.refl _ _⟩
theorem step_next (h:dh b t rest L LA Lc s w):Steps b t rest L LA Lc (aI s) w (w.setCell ⟨b,1,none⟩ (.int .i64 ((s.i:Int)+1))):=⟨h.set1 (s.i+1),bF (World.grownBy.refl _ _)⟩
theorem lZ (S : ByteArray) (h : dh b t rest L LA Lc s w) (hi : s.i < L.length) (hL : L.length ≤ 4001) :
  Calls Try.prog 37 #[.pointer (some ⟨b,0,none⟩),.string S] w fun r w'=>r=.returned (.tuple #[])/\Steps b t rest L LA Lc (aJ L S.toList s) w w':=by
 have HI:=zH (lu b t rest L LA Lc s w S h hi hL);have jR:Hid (∀W:World,dh b t rest L LA Lc s W->Calls Try.prog 42 #[.pointer (some ⟨b,0,none⟩),.int .i64 13] W fun r w'=>r=.returned (.tuple #[])/\Steps b t rest L LA Lc (aS L 13 s) W w'):=zH fun W h=>kU b t rest L LA Lc s W 13 h hi hL
 have c3:=h.c3;have HS:=zH h;unfold aJ
 by_cases h0:s.err=0
 case neg=>
  rw[if_pos h0];have iV:((s.err:Int)==0)=false:=zB (by omega)
  clear h0 HI jR
  go_enter Try.func37,Try.ntmps37
  go_wp2
  (try simp only[Exit.inBlock,Exit.then]);refine bodyPost_ret (v:=.tuple #[]) (by simp[results,Try.results37,go_sem]) rfl ?_
  exact⟨rfl,h,World.grownBy.refl _ _⟩
 case pos=>
  rw[if_neg (by omega)];have iV:((s.err:Int)==0)=true:=by rw[h0];rfl
  obtain⟨bi,hbi⟩:∃x,eX L s S.toList=x:=⟨_,rfl⟩
  rw[hbi]at HI⊢;clear h h0 hbi
  go_enter Try.func37,Try.ntmps37
  go_wp2_with fail
  refine HI.out.mono ?_;rintro r w2 ⟨rfl,hb2⟩;have hs2:=HS.out.old hb2;cases bi
  ·as_aux_lemma=>
   clear c3 HI;go_wp2_with fail
   refine(jR.out _ hs2).mono ?_;rintro r w3 ⟨rfl,hst⟩;go_wp2
   (try simp only[Exit.inBlock,Exit.then]);refine bodyPost_ret (v:=.tuple #[]) (by simp[results,Try.results37,go_sem]) rfl ?_
   exact⟨rfl,hst.st,(below_grown hb2 _).trans hst.grown⟩
  ·as_aux_lemma=>
   have d1:=hs2.c1;have f1:=hs2.fr 1;have hn:=step_next b t rest L LA Lc s w2 hs2;clear c3 HI jR;go_wp2
   first|go_end0|refine bodyPost_end (v:=.tuple #[]) (by simp[results,Try.results37,go_sem]) rfl ?_
   exact⟨rfl,hn.st,(below_grown hb2 _).trans hn.grown⟩
theorem open_any (h : dh b t rest L LA Lc s w) (hi : s.i < L.length) (hL : L.length ≤ 4001) (ho : s.opn ≤ 4001) :
  Calls Try.prog 98 #[.pointer (some ⟨b,0,none⟩)] w fun r w'=>r=.returned (.int .i64 ((aY L s).pos:Nat))/\Steps b t rest L LA Lc (cZ L s) w w':=by
 have HT:=zH (rY b t rest L LA Lc s w h hi hL);have jR:Hid (∀W:World,dh b t rest L LA Lc s W->Calls Try.prog 42 #[.pointer (some ⟨b,0,none⟩),.int .i64 14] W fun r w'=>r=.returned (.tuple #[])/\Steps b t rest L LA Lc (aS L 14 s) W w'):=zH fun W h=>kU b t rest L LA Lc s W 14 h hi hL
 have c2:=h.c2;have HS:=zH h;unfold cZ;have hfi:(aS L 14 s).i=s.i/\(aS L 14 s).opn=s.opn:=by unfold aS;split<;>exact⟨rfl,rfl⟩
 generalize aS L 14 s=s1 at *;unfold az.val at HT;generalize aY L s=T at *
 by_cases h0:s.opn=30
 case neg=>
  rw[if_neg h0];have iV:((s.opn:Int)==30)=false:=zB (by omega)
  clear h h0 jR hfi
  go_enter Try.func98,Try.ntmps98
  go_wp2_with fail
  refine HT.out.mono ?_;rintro r w2 ⟨rfl,hb2⟩;have hs2:=HS.out.old hb2;have d2:=hs2.c2;have f2:=hs2.fr 2;have hs3:=hs2.set2 (s.opn+1);have d1:=hs3.c1;have f1:=hs3.fr 1;have hs4:=hs3.set1 (s.i+1);have hg:=bF (o:=1) (v:=.int .i64 ((s.i+1:Nat):Int)) (bF (o:=2) (v:=.int .i64 ((s.opn+1:Nat):Int)) (below_grown hb2 (some b)));rw[show((s.opn+1:Nat):Int)=(s.opn:Int)+1 by omega]at hs4 hg d1 f1;rw[show((s.i+1:Nat):Int)=(s.i:Int)+1 by omega]at hs4 hg;clear c2 HT hs2 hb2 hs3 HS;go_wp2
  go_ret
  exact⟨rfl,hs4,hg⟩
 case pos=>
  rw[if_pos h0];have iV:((s.opn:Int)==30)=true:=by rw[h0];rfl
  clear h
  go_enter Try.func98,Try.ntmps98
  go_wp2_with fail
  refine HT.out.mono ?_;rintro r w2 ⟨rfl,hb2⟩;have hs2:=HS.out.old hb2;have d2:=hs2.c2;clear c2 HT;go_wp2_with fail
  refine(jR.out _ hs2).mono ?_;rintro r w3 ⟨rfl,hs3,hg3⟩;have hg:=(below_grown hb2 (some b)).trans hg3;obtain⟨e1,e2⟩:=hfi;have ho1:s1.opn<=4001:=by omega
  have hi1:s1.i<L.length:=by omega
  have d2':=hs3.c2;have f2:=hs3.fr 2;have hs4:=hs3.set2 (s1.opn+1);have d1:=hs4.c1;have f1:=hs4.fr 1;have hs5:=hs4.set1 (s1.i+1);have hgg:=bF (o:=1) (v:=.int .i64 ((s1.i+1:Nat):Int)) (bF (o:=2) (v:=.int .i64 ((s1.opn+1:Nat):Int)) hg);rw[show((s1.opn+1:Nat):Int)=(s1.opn:Int)+1 by omega]at hs5 hgg d1 f1;rw[show((s1.i+1:Nat):Int)=(s1.i:Int)+1 by omega]at hs5 hgg;clear d2 hs2 hb2 hs3 hg3 hg hs4 HS jR e1 e2 h0 iV;go_wp2
  go_ret
  exact⟨rfl,hs5,hgg⟩
theorem name_any (h : dh b t rest L LA Lc s w) (hi : s.i < L.length) (hL : L.length ≤ 4001) :
  Calls Try.prog 104 #[.pointer (some ⟨b,0,none⟩)] w fun r w'=>r=.returned (.string (bytes (gJ L s).1))/\Steps b t rest L LA Lc (gJ L s).2 w w':=by
 have HT:=zH (rY b t rest L LA Lc s w h hi hL);have jR:Hid (∀W:World,dh b t rest L LA Lc s W->Calls Try.prog 42 #[.pointer (some ⟨b,0,none⟩),.int .i64 13] W fun r w'=>r=.returned (.tuple #[])/\Steps b t rest L LA Lc (aS L 13 s) W w'):=zH fun W h=>kU b t rest L LA Lc s W 13 h hi hL
 have c3:=h.c3;have HS:=zH h;unfold gJ
 by_cases h0:s.err=0
 case neg=>
  rw[if_pos h0];have iV:((s.err:Int)==0)=false:=zB (by omega)
  clear h0 HT jR
  go_enter Try.func104,Try.ntmps104
  go_wp2
  go_ret
  exact⟨rfl,h,World.grownBy.refl _ _⟩
 case pos=>
  rw[if_neg (by omega)];have iV:((s.err:Int)==0)=true:=by rw[h0];rfl
  unfold az.val at HT;generalize aY L s=T at *;clear h h0
  by_cases hk:T.kind=2
  ·as_aux_lemma=>
   rw[if_pos hk];have QM:((T.kind:Int)==2)=true:=by rw[hk];rfl
   go_enter Try.func104,Try.ntmps104
   go_wp2_with fail
   refine HT.out.mono ?_;rintro r w2 ⟨rfl,hb2⟩;have x0:=Bk.new w2 102 #[.int .i64 T.kind,.string (bytes T.text),.int .i64 T.n,.int .i64 T.scale,.int .i64 T.pos];have jc:Below w2.heap.size w2 (w2.alloc (.cells #[.int .i64 T.kind,.string (bytes T.text),.int .i64 T.n,.int .i64 T.scale,.int .i64 T.pos] 102)):=zR.alloc zL _;have hbe:=hb2.trans (jc.mono hb2.size);have hs3:=(HS.out.old hb2).old jc;have hne:b≠w2.heap.size:=by have:=(HS.out.old hb2).bk.lt;omega
   have u0:=x0.cell 0;have d1:=hs3.c1;have f1:=hs3.fr 1;have u1:=(x0.far (p:=⟨b,1,none⟩) (Ne.symm hne) (.int .i64 ((s.i:Int)+1))).cell 1;have hn:=step_next b t rest L LA Lc s _ hs3;have hg:=(below_grown hbe (some b)).trans hn.grown;replace hn:=hn.st;clear c3 HT jR hb2 jc hs3 hk x0 HS hbe;go_wp2
   go_ret
   exact⟨rfl,hn,hg⟩
  ·as_aux_lemma=>
   rw[if_neg hk];have QM:((T.kind:Int)==2)=false:=zB (by omega)
   go_enter Try.func104,Try.ntmps104
   go_wp2_with fail
   refine HT.out.mono ?_;rintro r w2 ⟨rfl,hb2⟩;have x0:=Bk.new w2 102 #[.int .i64 T.kind,.string (bytes T.text),.int .i64 T.n,.int .i64 T.scale,.int .i64 T.pos];have jc:Below w2.heap.size w2 (w2.alloc (.cells #[.int .i64 T.kind,.string (bytes T.text),.int .i64 T.n,.int .i64 T.scale,.int .i64 T.pos] 102)):=zR.alloc zL _;have hbe:=hb2.trans (jc.mono hb2.size);have hs3:=(HS.out.old hb2).old jc;have hne:b≠w2.heap.size:=by have:=(HS.out.old hb2).bk.lt;omega
   have u0:=x0.cell 0;clear c3 HT hb2 jc hk x0;go_wp2_with fail
   refine(jR.out _ hs3).mono ?_;rintro r w4 ⟨rfl,hs4,hg4⟩;have hg:=(below_grown hbe (some b)).trans hg4;clear jR HS hbe hg4 hs3;go_wp2
   go_ret
   exact⟨rfl,hs4,hg⟩
end
def dK (L:List az):Prop:=∃M e,L=M++[e]/\e.kind=0
structure gG (L:List az) (s:PS):Prop where
 lt:s.i<L.length
 opn:s.opn<=s.i
structure bf (L:List az) (s s':PS):Prop where
 ok:gG L s'
 le:s.i<=s'.i
 opn:s'.opn=s.opn
theorem bf.refl {L:List az} {s:PS} (h:gG L s):bf L s s:=⟨h,Nat.le_refl _,rfl⟩
theorem bf.trans {L:List az} {s s' s'':PS} (h:bf L s s') (h2:bf L s' s''):bf L s s'':=⟨h2.ok,Nat.le_trans h.le h2.le,h2.opn.trans h.opn⟩
section
variable {L:List az} {s:PS}
theorem GN (he:dK L) (h:s.i<L.length) (hk:(aY L s).kind≠0):s.i+1<L.length:=by
 obtain⟨M,e,rfl,h0⟩:=he;rcases Nat.lt_or_ge (s.i+1) (M++[e]).length with h1|h1
 ·exact h1
 ·exfalso
  apply hk
  have hi:s.i=M.length:=by simp at h h1;omega
  rw[rX h];simp only[hi];simp[h0]
theorem bn {x:Str} (h:eX L s x=true):(aY L s).kind≠0:=by
 rw[zA]at h;simp at h;omega
theorem bf.next (he:dK L) (h:gG L s) (hk:(aY L s).kind≠0):bf L s (aI s):=⟨⟨GN he h.lt hk,by show s.opn<=s.i+1;have:=h.opn;omega⟩,Nat.le_succ _,rfl⟩
theorem bf.fail (e:Nat) (h:gG L s):bf L s (aS L e s):=by
 unfold aS
 split
 ·exact⟨⟨h.lt,h.opn⟩,Nat.le_refl _,rfl⟩
 ·exact bf.refl h
theorem bf.need (he:dK L) (w:Str) (h:gG L s):bf L s (aJ L w s):=by
 unfold aJ
 split
 ·exact bf.refl h
 ·split
  ·rename_i hi
   exact bf.next he h (bn hi)
  ·exact bf.fail _ h
theorem bf.name (he:dK L) (h:gG L s):bf L s (gJ L s).2:=by
 unfold gJ
 split
 ·exact bf.refl h
 ·split
  ·rename_i hk
   exact bf.next he h (by rw[hk];decide)
  ·exact bf.fail _ h
theorem Dz (L:List az) (s:PS):ig L s=if(aJ L [46] (gJ L s).2).err=0/\eX L (aJ L [46] (gJ L s).2) iH=true then((gJ L s).1,iH,aI (aJ L [46] (gJ L s).2))else((gJ L s).1,gJ L (aJ L [46] (gJ L s).2)):=rfl
theorem bf.field (he:dK L) (h:gG L s):bf L s (ig L s).2.2:=by
 rw[Dz];have h1:=bf.name he h;have h2:=h1.trans (bf.need he [46] h1.ok)
 split
 ·rename_i hi
  exact h2.trans (bf.next he h2.ok (bn hi.2))
 ·exact h2.trans (bf.name he h2.ok)
theorem iO (he:dK L) (h:gG L s) (hk:(aY L s).kind≠0):gG L (cZ L s)/\(cZ L s).i=s.i+1/\(cZ L s).opn=s.opn+1:=by
 have h1:=GN he h.lt hk;have h2:=h.opn;have hf:(aS L 14 s).i=s.i/\(aS L 14 s).opn=s.opn:=by unfold aS;split<;>exact⟨rfl,rfl⟩
 unfold cZ
 split
 ·exact⟨⟨by show(aS L 14 s).i+1<_;rw[hf.1];exact h1,by show(aS L 14 s).opn+1<=(aS L 14 s).i+1;rw[hf.1,hf.2];omega⟩,by show(aS L 14 s).i+1=_;rw[hf.1],by show(aS L 14 s).opn+1=_;rw[hf.2]⟩
 ·exact⟨⟨h1,by show s.opn+1<=s.i+1;omega⟩,rfl,rfl⟩
theorem bf.shut {s':PS} (he:dK L) (h:gG L s) (hk:(aY L s).kind≠0) (hg:bf L (cZ L s) s'):bf L s (Aw s'):=by
 obtain⟨h1,h2,h3⟩:=iO he h hk;have h4:=hg.opn;have h5:=hg.le;exact⟨⟨hg.ok.lt,by show s'.opn-1<=s'.i;have:=hg.ok.opn;omega⟩,by show s.i<=s'.i;omega,by show s'.opn-1=s.opn;omega⟩
end
section
variable (b:Nat) (t:TypeId) (rest:List Value) (L:List az) (LA:Option Addr) (Lc:Nat) (s:PS) (w:World)
theorem DC (h : dh b t rest L LA Lc s w) (he : dK L) (hi : gG L s) (hL : L.length ≤ 4001) :
  Calls Try.prog 99 #[.pointer (some ⟨b,0,none⟩)] w fun r w'=>r=.returned (.tuple #[.string (bytes (ig L s).1),.string (bytes (ig L s).2.1)])/\Steps b t rest L LA Lc (ig L s).2.2 w w':=by
 have g1:=bf.name he hi;have g2:=g1.trans (bf.need he [46] g1.ok);have tK:=zH (name_any b t rest L LA Lc s w h hi.lt hL)
 have pR:Hid (∀W:World,dh b t rest L LA Lc (gJ L s).2 W->Calls Try.prog 37 #[.pointer (some ⟨b,0,none⟩),.string ⟨#[46]⟩] W fun r w'=>r=.returned (.tuple #[])/\Steps b t rest L LA Lc (aJ L [46] (gJ L s).2) W w'):=zH fun W h=>by
  have:=lZ b t rest L LA Lc (gJ L s).2 W ⟨#[46]⟩ h g1.ok.lt hL
  rwa [show(⟨#[46]⟩:ByteArray).toList=[46] by rw[ByteArray.toList_eq]]at this
 rw[Dz];generalize gJ L s=r1 at *;obtain⟨n1,s1⟩:=r1;simp only at *;generalize aJ L [46] s1=s2 at *
 have HIS:Hid (∀W:World,dh b t rest L LA Lc s2 W->Calls Try.prog 39 #[.pointer (some ⟨b,0,none⟩),.string ⟨#[84,73,77,69]⟩] W fun r w'=>r=.returned (.bool (eX L s2 iH))/\Below W.heap.size W w'):=zH fun W h=>by
  have:=lu b t rest L LA Lc s2 W ⟨#[84,73,77,69]⟩ h g2.ok.lt hL
  rwa [show(⟨#[84,73,77,69]⟩:ByteArray).toList=iH by rw[ByteArray.toList_eq];rfl]at this
 have Vg:Hid (∀W:World,dh b t rest L LA Lc s2 W->Calls Try.prog 104 #[.pointer (some ⟨b,0,none⟩)] W fun r w'=>r=.returned (.string (bytes (gJ L s2).1))/\Steps b t rest L LA Lc (gJ L s2).2 W w'):=zH fun W h=>name_any b t rest L LA Lc s2 W h g2.ok.lt hL
 have hi2:=g2.ok.lt;clear h g1 g2 hi;have FIN:Hid (∀(n a:Str) (x:PS) (W:World),Steps b t rest L LA Lc x w W->((n,a,x)=(n,a,x))):=zH fun _ _ _ _ _=>rfl
 clear FIN
 by_cases h0:s2.err=0
 case neg=>
  have iV:((s2.err:Int)==0)=false:=zB (by omega)
  rw[if_neg (by simp[h0])];clear h0 HIS
  go_enter Try.func99,Try.ntmps99
  go_wp2_with fail
  refine tK.out.mono ?_;rintro r w2 ⟨rfl,hs2,hg2⟩;go_wp2_with fail
  refine(pR.out _ hs2).mono ?_;rintro r w3 ⟨rfl,hs3,hg3⟩;have c3:=hs3.c3;have hg:=hg2.trans hg3;clear hs2 hg2 hg3 tK pR;go_wp2_with fail
  refine(Vg.out _ hs3).mono ?_;rintro r w4 ⟨rfl,hs4,hg4⟩;have hgg:=hg.trans hg4;clear hs3 hg4 Vg c3 hg;go_wp2
  go_ret2
  exact⟨rfl,hs4,hgg⟩
 case pos=>
  have iV:((s2.err:Int)==0)=true:=by rw[h0];rfl
  obtain⟨bi,hbi⟩:∃x,eX L s2 iH=x:=⟨_,rfl⟩
  rw[hbi]at HIS⊢;clear hbi;cases bi
  ·as_aux_lemma=>
   rw[if_neg (by simp)];clear h0
   go_enter Try.func99,Try.ntmps99
   go_wp2_with fail
   refine tK.out.mono ?_;rintro r w2 ⟨rfl,hs2,hg2⟩;go_wp2_with fail
   refine(pR.out _ hs2).mono ?_;rintro r w3 ⟨rfl,hs3,hg3⟩;have c3:=hs3.c3;have hg:=hg2.trans hg3;clear hs2 hg2 hg3 tK pR;go_wp2_with fail
   refine(HIS.out _ hs3).mono ?_;rintro r w4 ⟨rfl,hb4⟩;have hs4:=hs3.old hb4;have hg4:=hg.trans (below_grown hb4 (some b));clear hs3 hb4 hg HIS c3;go_wp2_with fail
   refine(Vg.out _ hs4).mono ?_;rintro r w5 ⟨rfl,hs5,hg5⟩;have hgg:=hg4.trans hg5;clear hs4 hg5 Vg hg4;go_wp2
   go_ret2
   exact⟨rfl,hs5,hgg⟩
  ·as_aux_lemma=>
   rw[if_pos ⟨h0,rfl⟩];clear h0
   go_enter Try.func99,Try.ntmps99
   go_wp2_with fail
   refine tK.out.mono ?_;rintro r w2 ⟨rfl,hs2,hg2⟩;go_wp2_with fail
   refine(pR.out _ hs2).mono ?_;rintro r w3 ⟨rfl,hs3,hg3⟩;have c3:=hs3.c3;have hg:=hg2.trans hg3;clear hs2 hg2 hg3 tK pR Vg;go_wp2_with fail
   refine(HIS.out _ hs3).mono ?_;rintro r w4 ⟨rfl,hb4⟩;have hs4:=hs3.old hb4;have hg4:=hg.trans (below_grown hb4 (some b));have d1:=hs4.c1;have f1:=hs4.fr 1;have hn:=step_next b t rest L LA Lc s2 w4 hs4;have hgg:=hg4.trans hn.grown;replace hn:=hn.st;clear hs3 hb4 hg HIS c3 hs4 hg4;go_wp2
   go_ret2
   exact⟨rfl,hn,hgg⟩
end
theorem vT {w0 w:World} {b g o:Nat} {v:Value} (h:w0.grownBy w (some b)) (hg:w0.heap.size<=g):w0.grownBy (w.setCell ⟨g,o,none⟩ v) (some b):=
 ⟨h.os,h.tape,h.output,by simpa using h.size,fun k hk hne=>(Below.heap_setCell w _ v k (by show k≠g;omega)).trans (h.block k hk hne)⟩
theorem JU {w0 w:World} {b:Nat} (h:w0.grownBy w (some b)) (o:Obj):w0.grownBy (w.alloc o) (some b):=h.trans (below_grown (zR.alloc zL o) _)
theorem dh.far {b g o:Nat} {t:TypeId} {rest:List Value} {L:List az} {LA:Option Addr} {Lc:Nat} {s:PS} {w:World} (h:dh b t rest L LA Lc s w) (hg:b<g) (v:Value):dh b t rest L LA Lc s (w.setCell ⟨g,o,none⟩ v):=
 ⟨h.bk.far (p:=⟨g,o,none⟩) (by show b≠g;omega) v,h.rd.below ((Below.refl b w).setCell (p:=⟨g,o,none⟩) (Nat.le_of_lt hg) v)⟩
def gK (op n scale:Nat) (name attr:Str) (pos:Nat):List Value:=[.int .i64 op,.slice none 0 0,.int .i64 n,.int .i64 scale,.string (bytes name),.string (bytes attr),.int .i64 pos]
theorem AO (L:List az) (pos i:Nat) (w:Str) (l:List Str) (op:Nat) (n a:Str) (s:PS):iZ L pos i (w::l) (op,n,a,s)=iZ L pos (i+1) l (if op=0/\eX L s w=true then(25+i,Qw L s i)else(op,n,a,s)):=rfl
theorem GR (L:List az) (s:PS) (i:Nat):Qw L s i=if i=0 then((gJ L (aJ L [40] (aI s))).1,[],aJ L [41] (gJ L (aJ L [40] (aI s))).2)else((ig L (aJ L [40] (aI s))).1,(ig L (aJ L [40] (aI s))).2.1,aJ L [41] (ig L (aJ L [40] (aI s))).2.2):=by
 unfold Qw
 split<;>rfl
theorem GU (w:World):Calls Try.prog 95 #[] w fun e w'=>∃g,e=.returned (.slice (some ⟨g,0,none⟩) 7 7)/\(∀k (h:k<jl.length),w'.cell? ⟨g,k,none⟩=some (.string (bytes jl[k])))/\w.heap.size<=g/\g<w'.heap.size/\Below w.heap.size w w':=by
 go_enter Try.func95,Try.ntmps95
 go_wp2
 go_ret
 have y0:=Bk.new w 9 (jl.map fun x=>Value.string (bytes x)).toArray;have hbY:Below w.heap.size w (w.alloc (.cells (jl.map fun x=>Value.string (bytes x)).toArray 9)):=zR.alloc zL _;refine⟨w.heap.size,rfl,fun k h=>?_,Nat.le_refl _,y0.lt,hbY⟩;refine(y0.cell k).trans ?_;rw[List.getElem?_toArray,List.getElem?_map,List.getElem?_eq_getElem h];rfl
structure Ph (b:Nat) (t:TypeId) (rest:List Value) (L:List az) (LA:Option Addr) (Lc:Nat) (gx ga:Nat) (AL:List Str) (w w1:World) (cs:List Value) (x:PS) (W:World):Prop where
 st:dh b t rest L LA Lc x W
 bk:Bk W gx 118 cs.toArray
 ag:∀k (h:k<AL.length),W.cell? ⟨ga,k,none⟩=some (.string (bytes AL[k]))
 fr:∀w0:World,w0.grownBy w (some b)->w0.heap.size<=gx->w0.grownBy W (some b)
 sz:w1.heap.size<=W.heap.size
 ws:w.heap.size<=w1.heap.size
 ot:∀k,k<w.heap.size->k≠b->k≠gx->W.heap[k]? =w.heap[k]?
section
variable {b:Nat} {t:TypeId} {rest:List Value} {L:List az} {LA:Option Addr} {Lc gx ga:Nat} {AL:List Str} {w w1 W W':World} {cs:List Value} {x x':PS}
theorem Ph.old (h:Ph b t rest L LA Lc gx ga AL w w1 cs x W) (hga:ga<w1.heap.size) (hb:Below W.heap.size W W'):Ph b t rest L LA Lc gx ga AL w w1 cs x W':=
 ⟨h.st.old hb,h.bk.old hb,fun k hk=>(hb.cell (p:=⟨ga,k,none⟩) (Nat.lt_of_lt_of_le hga h.sz)).trans (h.ag k hk),fun w0 h1 h2=>(h.fr w0 h1 h2).trans (below_grown hb _),Nat.le_trans h.sz hb.size,h.ws,fun k h1 h2 h3=>(hb.block k (by have:=h.sz;have:=h.ws;omega)).trans (h.ot k h1 h2 h3)⟩
theorem Ph.steps (h:Ph b t rest L LA Lc gx ga AL w w1 cs x W) (hga:ga<w1.heap.size) (hbx:b<gx) (hxa:gx<ga) (hs:Steps b t rest L LA Lc x' W W'):Ph b t rest L LA Lc gx ga AL w w1 cs x' W':=
 ⟨hs.st,h.bk.grown hs.grown (by intro e;injection e with e;omega),fun k hk=>by
  have e:W'.heap[ga]? =W.heap[ga]? :=hs.grown.block ga (Nat.lt_of_lt_of_le hga h.sz) (by intro e;injection e with e;omega)
  rw[<-h.ag k hk];simp[World.cell?,e],fun w0 h1 h2=>(h.fr w0 h1 h2).trans hs.grown,Nat.le_trans h.sz hs.grown.size,h.ws,fun k h1 h2 h3=>(hs.grown.block k (by have:=h.sz;have:=h.ws;omega) (by intro e;injection e with e;omega)).trans (h.ot k h1 h2 h3)⟩
theorem Ph.put (h:Ph b t rest L LA Lc gx ga AL w w1 cs x W) (hbx:b<gx) (hxa:gx<ga) (i:Nat) (v:Value):Ph b t rest L LA Lc gx ga AL w w1 (cs.set i v) x (W.setCell ⟨gx,i,none⟩ v):=
 ⟨h.st.far hbx v,by simpa using h.bk.put i v,fun k hk=>by
  have e:(W.setCell ⟨gx,i,none⟩ v).heap[ga]? =W.heap[ga]? :=Below.heap_setCell W _ v ga (by show ga≠gx;omega)
  rw[<-h.ag k hk];simp[World.cell?,e],fun w0 h1 h2=>vT (h.fr w0 h1 h2) h2,by simpa using h.sz,h.ws,fun k h1 h2 h3=>(Below.heap_setCell W _ v k (by show k≠gx;omega)).trans (h.ot k h1 h2 h3)⟩
end
section
variable (b:Nat) (t:TypeId) (rest:List Value) (L:List az) (LA:Option Addr) (Lc:Nat) (s:PS) (w:World)
def NaOk (op:Nat) (n a:Str):Prop:=op=0->n=[]/\a=[]
def zAv (gx pos:Nat) (r:ax×PS) (w w':World):Prop:=
 ∃op n a,r.1=.leaf op 0 0 n a pos/\Bk w' gx 118 (gK op 0 0 n a pos).toArray/\dh b t rest L LA Lc r.2 w'/\(∀w0:World,w0.grownBy w (some b)->w0.heap.size<=gx->w0.grownBy w' (some b))/\w.heap.size<=w'.heap.size/\∀k,k<w.heap.size->k≠b->k≠gx->w'.heap[k]? =w.heap[k]?
theorem Cm (gx pos : Nat) (h : dh b t rest L LA Lc s w) (he : dK L) (hi : gG L s) (hL : L.length ≤ 4001) (hx : Bk w gx 118 (gK 0 0 0 [] [] pos).toArray) (hbx : b < gx) :
  Calls Try.prog 100 #[.pointer (some ⟨b,0,none⟩),.pointer (some ⟨gx,0,none⟩)] w fun r w'=>r=.returned (.tuple #[])/\bf L s (fA L pos s).2/\zAv b t rest L LA Lc gx pos (fA L pos s) w w':=by
 obtain⟨RES,hres⟩:∃RES,iZ L pos 0 jl (0,[],[],s)=RES:=⟨_,rfl⟩
 have hR:fA L pos s=(.leaf RES.1 0 0 RES.2.1 RES.2.2.1 pos,if RES.1=0 then aS L 13 RES.2.2.2 else RES.2.2.2):=by unfold fA;rw[hres]
 rw[hR];clear hR;have HR:Hid (iZ L pos 0 (jl.drop 0) (0,[],[],s)=RES):=zH hres;have HS:=zH h;have HX:=zH hx;have HI:=zH hi;clear hres h hx hi
 go_enter Try.func100,Try.ntmps100
 go_wp2_with fail
 refine(GU w).mono ?_;rintro r w1 ⟨ga,rfl,hga,hgb,hgc,hb1⟩;have hs1:=HS.out.old hb1;have hx1:=HX.out.old hb1;have hgx:=HX.out.lt;have HG:=zH hga;have hwl:=hb1.size;have hbl:=HS.out.bk.lt;have HB1:=zH hb1;clear hga hb1 HS HX;have hal:jl.length=7:=rfl;generalize jl=AL at *;go_wp2
 have hxa:gx<ga:=by omega
 go_loopw[8] (fun i wr=>∃(k op:Nat) (n a:Str) (x:PS),k<=7/\i=.int .i64 k/\Hid (iZ L pos k (AL.drop k) (op,n,a,x)=RES)/\Hid (Ph b t rest L LA Lc gx ga AL w w1 (gK op 0 0 n a pos) x wr)/\Hid (bf L s x)/\Hid (NaOk op n a)) (fun i _=>7-(intOf i).toNat)
 case atStart=>exact⟨0,0,[],[],s,Nat.zero_le _,rfl,HR,zH ⟨hs1,hx1,HG.out,fun w0 h1 _=>h1.trans (below_grown HB1.out _),Nat.le_refl _,hwl,fun k h1 _ _=>HB1.out.block k h1⟩,zH (bf.refl HI.out),zH (fun _=>⟨rfl,rfl⟩)⟩
 case round=>
  clear HR hs1 hx1 HG HB1 HI;obtain⟨k,op,n,a,x,hk,rfl,hrec,HV,nP,Ew⟩:=hrel;obtain⟨wo,rfl⟩:∃wo:World,wo=wr:=⟨_,rfl⟩
  have hx0:wo.cell? ⟨gx,0,none⟩=some (.int .i64 op):=HV.out.bk.cell 0
  by_cases hlt:k<7
  ·have hkl:k<AL.length:=by omega
   have hck:=HV.out.ag k hkl;have hst:=hrec.out;rw[List.drop_eq_getElem_cons hkl,AO]at hst;obtain⟨X,hX⟩:∃X,bytes AL[k]=X:=⟨_,rfl⟩
   have UA:X.toList=AL[k]:=by rw[<-hX,aF]
   rw[hX]at hck;have hIS:=fun W h=>lu b t rest L LA Lc x W X h nP.out.ok.lt hL
   rw[UA]at hIS;clear hrec hX UA;generalize AL[k]=wd at *
   by_cases h0:op=0
   case neg=>
    as_aux_lemma=>
    have iV:((op:Int)==0)=false:=zB (by omega)
    rw[if_neg (by simp[h0])]at hst;have HST:=zH hst;clear hst hIS h0;go_wp2
    go_roundw
    case rel=>exact⟨k+1,op,n,a,x,by omega,by go_num,HST,HV,nP,Ew⟩
    case measure=>simp[intOf];omega
   case pos=>
   subst h0;obtain⟨bi,hbi⟩:∃z,eX L x wd=z:=⟨_,rfl⟩
   rw[hbi]at hst hIS;have HIS:=zH hIS;cases bi
   case false=>
    as_aux_lemma=>
    rw[if_neg (by simp)]at hst;have HST:=zH hst;clear hst hIS hbi;go_wp2_with fail
    refine(HIS.out _ HV.out.st).mono ?_;rintro r w2 ⟨rfl,hb2⟩;have iy:=zH (HV.out.old hgc hb2);clear HV hb2 HIS hck hx0;go_wp2
    go_roundw
    case rel=>exact⟨k+1,0,n,a,x,by omega,by go_num,HST,iy,nP,Ew⟩
    case measure=>simp[intOf];omega
   case true=>
   obtain⟨rfl,rfl⟩:=Ew.out rfl;clear Ew;rw[if_pos ⟨rfl,rfl⟩,GR]at hst;have hkd:=bn hbi;have g1:=nP.out.trans (bf.next he nP.out.ok hkd);have g2:=g1.trans (bf.need he [40] g1.ok)
   have pR:Hid (∀W:World,dh b t rest L LA Lc (aI x) W->Calls Try.prog 37 #[.pointer (some ⟨b,0,none⟩),.string ⟨#[40]⟩] W fun r w'=>r=.returned (.tuple #[])/\Steps b t rest L LA Lc (aJ L [40] (aI x)) W w'):=zH fun W h=>by
    have:=lZ b t rest L LA Lc (aI x) W ⟨#[40]⟩ h g1.ok.lt hL
    rwa [show(⟨#[40]⟩:ByteArray).toList=[40] by rw[ByteArray.toList_eq]]at this
   have JV:Hid (∀(y:PS),gG L y->∀W:World,dh b t rest L LA Lc y W->Calls Try.prog 37 #[.pointer (some ⟨b,0,none⟩),.string ⟨#[41]⟩] W fun r w'=>r=.returned (.tuple #[])/\Steps b t rest L LA Lc (aJ L [41] y) W w'):=zH fun y hy W h=>by
    have:=lZ b t rest L LA Lc y W ⟨#[41]⟩ h hy.lt hL
    rwa [show(⟨#[41]⟩:ByteArray).toList=[41] by rw[ByteArray.toList_eq]]at this
   have tJ:Hid (∀(y:PS),gG L y->∀W:World,dh b t rest L LA Lc y W->Calls Try.prog 104 #[.pointer (some ⟨b,0,none⟩)] W fun r w'=>r=.returned (.string (bytes (gJ L y).1))/\Steps b t rest L LA Lc (gJ L y).2 W w'):=zH fun y hy W h=>name_any b t rest L LA Lc y W h hy.lt hL
   have zC:Hid (∀(y:PS),gG L y->∀W:World,dh b t rest L LA Lc y W->Calls Try.prog 99 #[.pointer (some ⟨b,0,none⟩)] W fun r w'=>r=.returned (.tuple #[.string (bytes (ig L y).1),.string (bytes (ig L y).2.1)])/\Steps b t rest L LA Lc (ig L y).2.2 W w'):=zH fun y hy W h=>DC b t rest L LA Lc y W h he hy hL
   have hi1:=nP.out.ok.lt;clear hIS hbi hkd;go_wp2_with fail
   refine(HIS.out _ HV.out.st).mono ?_;rintro r w2 ⟨rfl,hb2⟩;have hv2:=HV.out.old hgc hb2;have d1:=hv2.st.c1;have f1:=hv2.st.fr 1;have hv3:=hv2.steps hgc hbx hxa (step_next b t rest L LA Lc x w2 hv2.st);clear hb2 HV HIS hck hx0 hv2;go_wp2_with fail
   refine(pR.out _ hv3.st).mono ?_;rintro r w4 ⟨rfl,QN⟩;have hv4:=hv3.steps hgc hbx hxa QN;generalize aJ L [40] (aI x)=x2 at *;have hcl:wo.heap.size<=w4.heap.size\/True:=.inr trivial;clear QN hv3 pR d1 f1 g1 hcl;have e0:w4.cell? ⟨gx,0,none⟩=some (.int .i64 0):=hv4.bk.cell 0;have f0:=hv4.bk.frozen 0;have hv5:=hv4.put hbx hxa 0 (.int .i64 (25+(k:Int)))
   by_cases hk0:k=0
   case pos=>
    as_aux_lemma=>
    subst hk0;rw[if_pos rfl]at hst;go_wp2_with fail
    refine(tJ.out x2 g2.ok _ hv5.st).mono ?_;rintro r w6 ⟨rfl,AP⟩;have hv6:=hv5.steps hgc hbx hxa AP;have g3:=g2.trans (bf.name he g2.ok);generalize gJ L x2=rr at *;obtain⟨n6,x6⟩:=rr;simp only at *;clear AP hv4 hv5 e0 f0 tJ zC;have e4:w6.cell? ⟨gx,4,none⟩=some (.string (bytes [])):=hv6.bk.cell 4;have f4:=hv6.bk.frozen 4;have hv7:=hv6.put hbx hxa 4 (.string (bytes n6));go_wp2_with fail
    refine(JV.out x6 g3.ok _ hv7.st).mono ?_;rintro r w8 ⟨rfl,AQ⟩;have hv8:=hv7.steps hgc hbx hxa AQ;have Yn:=zH (g3.trans (bf.need he [41] g3.ok));have HST:=zH hst;have rZ:Hid (Ph b t rest L LA Lc gx ga AL w w1 (gK 25 0 0 n6 [] pos) (aJ L [41] x6) w8):=zH hv8;clear AQ hv6 hv7 hv8 e4 f4 hst g2 g3 JV;generalize aJ L [41] x6=x8 at *;go_wp2
    go_roundw
    case rel=>exact⟨1,25,n6,[],x8,by omega,by go_num,HST,rZ,Yn,zH (fun h=>by cases h)⟩
    case measure=>simp[intOf]
   case neg=>
    as_aux_lemma=>
    rw[if_neg hk0]at hst;have hk0I:((k:Int)==0)=false:=zB (by omega)
    go_wp2_with fail
    refine(zC.out x2 g2.ok _ hv5.st).mono ?_;rintro r w6 ⟨rfl,AP⟩;have hv6:=hv5.steps hgc hbx hxa AP;have g3:=g2.trans (bf.field he g2.ok);generalize ig L x2=rr at *;obtain⟨n6,a6,x6⟩:=rr;simp only at *;clear AP hv4 hv5 e0 f0 tJ zC;have e4:w6.cell? ⟨gx,4,none⟩=some (.string (bytes [])):=hv6.bk.cell 4;have f4:=hv6.bk.frozen 4;have hv7:=hv6.put hbx hxa 4 (.string (bytes n6));have e5:(w6.setCell ⟨gx,4,none⟩ (.string (bytes n6))).cell? ⟨gx,5,none⟩=some (.string (bytes [])):=hv7.bk.cell 5;have f5:=hv7.bk.frozen 5;have Yo:=hv7.put hbx hxa 5 (.string (bytes a6));go_wp2_with fail
    refine(JV.out x6 g3.ok _ Yo.st).mono ?_;rintro r w8 ⟨rfl,AQ⟩;have hv8:=Yo.steps hgc hbx hxa AQ;have Yn:=zH (g3.trans (bf.need he [41] g3.ok));have HST:=zH hst;have rZ:Hid (Ph b t rest L LA Lc gx ga AL w w1 (gK (25+k) 0 0 n6 a6 pos) (aJ L [41] x6) w8):=zH hv8;clear AQ hv6 hv7 Yo hv8 e4 f4 e5 f5 hst g2 g3 JV;generalize aJ L [41] x6=x8 at *;go_wp2
    go_roundw
    case rel=>exact⟨k+1,25+k,n6,a6,x8,by omega,by go_num,HST,rZ,Yn,zH (fun h=>by omega)⟩
    case measure=>simp[intOf];omega
  ·as_aux_lemma=>
   obtain rfl:k=7:=by omega
   have hst:=hrec.out;rw[List.drop_eq_nil_of_le (by omega)]at hst;have hst:(op,n,a,x)=RES:=hst;subst hst;clear hrec
   by_cases h0:op=0
   ·subst h0;have jR:Hid (∀W:World,dh b t rest L LA Lc x W->Calls Try.prog 42 #[.pointer (some ⟨b,0,none⟩),.int .i64 13] W fun r w'=>r=.returned (.tuple #[])/\Steps b t rest L LA Lc (aS L 13 x) W w'):=zH fun W h=>kU b t rest L LA Lc x W 13 h nP.out.ok.lt hL
    go_wp2_with fail
    refine(jR.out _ HV.out.st).mono ?_;rintro r w2 ⟨rfl,hs2⟩;have hv2:=HV.out.steps hgc hbx hxa hs2;clear HV jR hx0;go_wp2
    first|go_end0|refine bodyPost_end (v:=.tuple #[]) (by simp[results,Try.results100,go_sem]) rfl ?_
    exact⟨rfl,nP.out.trans (bf.fail _ nP.out.ok),0,n,a,rfl,hv2.bk,hv2.st,hv2.fr,Nat.le_trans hv2.ws hv2.sz,hv2.ot⟩
   ·have iV:((op:Int)==0)=false:=zB (by omega)
    go_wp2
    first|go_end0|refine bodyPost_end (v:=.tuple #[]) (by simp[results,Try.results100,go_sem]) rfl ?_
    exact⟨rfl,nP.out,op,n,a,rfl,HV.out.bk,HV.out.st,HV.out.fr,Nat.le_trans HV.out.ws HV.out.sz,HV.out.ot⟩
end
def opC (op g k pos:Nat):List Value:=[.int .i64 op,.slice (some ⟨g,0,none⟩) k k,.int .i64 0,.int .i64 0,.string ⟨#[]⟩,.string ⟨#[]⟩,.int .i64 pos]
def kZ (P:Nat->Prop) (w:World):ax->List Value->Prop
 |.leaf op n sc nm a p,cs=>cs=gK op n sc nm a p
 |.un op x p,cs=>∃g xs,cs=opC op g 1 p/\P g/\Bk w g 118 xs.toArray/\kZ P w x xs
 |.bin op x y p,cs=>∃g xs ys,cs=opC op g 2 p/\P g/\Bk w g 118 (xs++ys).toArray/\kZ P w x xs/\kZ P w y ys
theorem kZ.keep {P P':Nat->Prop} {w w':World} (hk:∀g,P g->g<w.heap.size->P' g/\w'.heap[g]? =w.heap[g]?):∀{e:ax} {cs:List Value},kZ P w e cs->kZ P' w' e cs
 |.leaf ..,_,h=>h
 |.un _ x _,_,⟨g,xs,h1,h2,h3,h4⟩=>⟨g,xs,h1,(hk g h2 h3.lt).1,(hk g h2 h3.lt).2.trans h3,h4.keep hk⟩
 |.bin _ x y _,_,⟨g,xs,ys,h1,h2,h3,h4,h5⟩=>⟨g,xs,ys,h1,(hk g h2 h3.lt).1,(hk g h2 h3.lt).2.trans h3,h4.keep hk,h5.keep hk⟩
theorem kZ.old {P:Nat->Prop} {w w':World} {e:ax} {cs:List Value} (h:kZ P w e cs) (hb:Below w.heap.size w w'):kZ P w' e cs:=h.keep fun g hP hg=>⟨hP,hb.block g hg⟩
theorem kZ.grown {b B:Nat} {w w':World} {e:ax} {cs:List Value} (h:kZ (fun g=>B<=g) w e cs) (hb:w.grownBy w' (some b)) (hlt:b<B):kZ (fun g=>B<=g) w' e cs:=h.keep fun g hP hg=>⟨hP,hb.block g hg (by intro e;injection e with e;omega)⟩
theorem kZ.put {q B:Nat} {t:TypeId} {ds:Array Value} {w w':World} {e:ax} {cs:List Value} (h:kZ (fun g=>B<=g) w e cs) (hp:lH w q t ds w') (hlt:q<B):kZ (fun g=>B<=g) w' e cs:=h.keep fun g hP hg=>⟨hP,hp.other g (by omega)⟩
theorem kZ.more {B B':Nat} {w:World} {e:ax} {cs:List Value} (h:kZ (fun g=>B<=g) w e cs) (hB:B'<=B):kZ (fun g=>B'<=g) w e cs:=h.keep fun g hP hg=>⟨by omega,rfl⟩
theorem kZ.set {q B o:Nat} {v:Value} {w:World} {e:ax} {cs:List Value} (h:kZ (fun g=>B<=g) w e cs) (hlt:q<B):kZ (fun g=>B<=g) (w.setCell ⟨q,o,none⟩ v) e cs:=h.keep fun g hP hg=>⟨hP,Below.heap_setCell w _ v g (by show g≠q;omega)⟩
theorem kZ.seven {P:Nat->Prop} {w:World}:∀{e:ax} {cs:List Value},kZ P w e cs->∃c0 c1 c2 c3 c4 c5 c6,cs=[c0,c1,c2,c3,c4,c5,c6]/\[c0,c1,c2,c3,c4,c5,c6].all Value.oneCell'=true
 |.leaf ..,_,h=>⟨_,_,_,_,_,_,_,h,rfl⟩
 |.un ..,_,⟨g,xs,h1,_⟩=>⟨_,_,_,_,_,_,_,h1,rfl⟩
 |.bin ..,_,⟨g,xs,ys,h1,_⟩=>⟨_,_,_,_,_,_,_,h1,rfl⟩
theorem QO:(Try.prog.info? 118).map (fun i=>(i.zero,i.size,i.bytes))=some (some (.agg #[.int .i64 0,.slice none 0 0,.int .i64 0,.int .i64 0,.string ⟨#[]⟩,.string ⟨#[]⟩,.int .i64 0]),7,88):=by kernel_rfl
theorem bV (w:World):(sizeOf 118).run Try.prog w=.ok 7 w:=by
 obtain⟨i,hi,h0,h1,h2⟩:=info_parts QO;simp[sizeOf,typeInfo,hi,h1]
theorem GV (c0 c1 c2 c3 c4 c5 c6:Value) (w:World):(Instr.buildSlice 78 1 #[(0,.agg #[c0,c1,c2,c3,c4,c5,c6])]).run Try.prog w=.ok (.slice (some ⟨w.heap.size,0,none⟩) 1 1) (w.alloc (.cells #[c0,c1,c2,c3,c4,c5,c6] 118)):=by kernel_rfl
theorem jL {w : World} {ops : Array Oper} {rest : List Oper} {o : Oper} {a : Act} {Q : Exit → Act → World → Prop} {c0 c1 c2 c3 c4 c5 c6 : Value} (hgd : o.guard = none) (x : Operand) (ho : o.op = .buildSlice 78 1 #[(0, x)]) (hx : a.eval x = .agg #[c0, c1, c2, c3, c4, c5, c6])
  (h:wpList Try.prog ops Q rest (a.put o.dst (.slice (some ⟨w.heap.size,0,none⟩) 1 1)) (w.alloc (.cells #[c0,c1,c2,c3,c4,c5,c6] 118))):wpList Try.prog ops Q (o::rest) a w:=
 wpList_plain hgd fun _ hK=>by
  unfold Oper.wp execOp;simp only[ho,List.map_toArray,List.map_cons,List.map_nil,hx,Sem.run_bind,GV,Result.andThen_ok,Sem.run_pure];exact hK _ _ h
section
variable {L:List az}
theorem MC (he:dK L) (lv:PS->ax×PS) (hlv:∀s,gG L s->bf L s (lv s).2) (level:Nat):∀(k:Nat) (x:ax) (s:PS),gG L s->bf L s (qI L lv level k x s).2
 |0,x,s,h=>bf.refl h
 |k+1,x,s,h=>by
  unfold qI
  split
  ·exact bf.refl h
  ·split
   ·exact bf.refl h
   ·rename_i h0 h1
    have hk:(aY L s).kind≠0:=by
     intro e
     apply h1
     have hno:∀w,eX L s w=false:=fun w=>by rw[zA,e];rfl
     have key:∀(l:List Str) (first i op:Nat),nG L s first i l op=op:=by
      intro l
      induction l with
      |nil=>intro _ _ _;rfl
      |cons x l ih=>intro f i op;show nG L s f (i+1) l (if eX L s x=true then f+i else op)=op;rw[hno x];exact ih _ _ _
     exact key _ _ _ _
    have g1:=bf.next he h hk;have g2:=g1.trans (hlv _ g1.ok)
    show bf L s (if level=4 then(_,(lv (aI s)).2)else qI L lv level k _ (lv (aI s)).2).2
    split
    ·exact g2
    ·exact g2.trans (MC he lv hlv level k _ _ g2.ok)
theorem Ey (he:dK L) (pos:Nat):∀(l:List Str) (i op:Nat) (n a:Str) (x s:PS),bf L s x->bf L s (iZ L pos i l (op,n,a,x)).2.2.2
 |[],i,op,n,a,x,s,h=>h
 |w::l,i,op,n,a,x,s,h=>by
  rw[AO]
  split
  ·rename_i hc
   have g1:=h.trans (bf.next he h.ok (bn hc.2));have g2:=g1.trans (bf.need he [40] g1.ok);rw[GR]
   split
   ·have g3:=g2.trans (bf.name he g2.ok);exact Ey he pos l _ _ _ _ _ s (g3.trans (bf.need he [41] g3.ok))
   ·have g3:=g2.trans (bf.field he g2.ok);exact Ey he pos l _ _ _ _ _ s (g3.trans (bf.need he [41] g3.ok))
  ·exact Ey he pos l _ _ _ _ _ s h
theorem Vh (he:dK L) (pos:Nat) (s:PS) (h:gG L s):bf L s (fA L pos s).2:=by
 unfold fA;generalize jl=AL;have g1:=Ey he pos AL 0 0 [] [] s s (bf.refl h);generalize iZ L pos 0 AL (0,[],[],s)=r at *;obtain⟨op,n,a,x⟩:=r
 show bf L s (if op=0 then aS L 13 x else x)
 split
 ·exact g1.trans (bf.fail _ g1.ok)
 ·exact g1
theorem Vj (he:dK L) (lv:PS->ax×PS) (hlv:∀s,gG L s->bf L s (lv s).2) (s:PS) (h:gG L s):bf L s (qJ L lv s).2:=by
 unfold qJ;simp only[]
 split
 ·rename_i hk;exact bf.next he h (by rw[hk];decide)
 split
 ·rename_i hk;exact bf.next he h (by rw[hk];decide)
 split
 ·rename_i hk;exact bf.next he h (by rw[hk];decide)
 split
 ·exact bf.field he h
 split
 ·rename_i hc
  have hk:=bn hc;have g1:=hlv _ (iO he h hk).1;exact bf.shut he h hk (g1.trans (bf.need he [41] g1.ok))
 split
 ·rename_i hc
  have hk:(aY L s).kind≠0:=by
   rcases Bool.or_eq_true_iff.1 hc with hc|hc<;>exact bn hc
  exact bf.next he h hk
 split
 ·rename_i hc
  have hk:(aY L s).kind≠0:=by
   rcases Bool.or_eq_true_iff.1 hc with hc|hc<;>exact bn hc
  have o1:=(iO he h hk).1;have g0:=bf.need he [40] o1;have g1:=g0.trans (hlv _ g0.ok);exact bf.shut he h hk (g1.trans (bf.need he [41] g1.ok))
 ·show bf L s (fA L _ s).2
  exact Vh he _ s h
theorem fB (he:dK L):∀(f level:Nat) (s:PS),gG L s->bf L s (aN L f level s).2
 |0,_,s,h=>bf.refl h
 |f+1,level,s,h=>by
  unfold aN
  split
  ·exact bf.refl h
  ·split
   ·split
    ·rename_i hc
     have hk:=bn hc;exact bf.shut he h hk (fB he f level _ (iO he h hk).1)
    ·exact fB he f _ s h
   ·split
    ·exact Vj he _ (fun s h=>fB he f 1 s h) s h
    ·have g1:=fB he f (level+1) s h;exact g1.trans (MC he _ (fun s h=>fB he f (level+1) s h) level _ _ _ g1.ok)
end
def Ez (level:Nat) (w:World) (e:Ending) (w':World):Prop:=
 ∃(A:Option Addr) (c:Nat),e=.returned (.tuple #[.slice A (dB level).1.length c,.int .i64 ((dB level).2:Nat)])/\Rd w' w'.heap.size A ((dB level).1.map fun x=>Value.string (bytes x))/\Below w.heap.size w w'
theorem DD (level:Nat) (h:level<=8) (w:World):Calls Try.prog 83 #[.int .i64 level] w (Ez level w):=by
 match level,h with
 |1,_=>
  go_enter Try.func83,Try.ntmps83
  go_wp2
  go_ret2
  exact⟨_,_,rfl,Rd.bk (Bk.new w 9 _) (Bk.new w 9 _).lt,zR.alloc zL _⟩
 |2,_=>
  go_enter Try.func83,Try.ntmps83
  go_wp2
  go_ret2
  exact⟨_,_,rfl,Rd.bk (Bk.new w 9 _) (Bk.new w 9 _).lt,zR.alloc zL _⟩
 |4,_=>
  go_enter Try.func83,Try.ntmps83
  go_wp2
  go_ret2
  exact⟨_,_,rfl,Rd.bk (Bk.new w 9 _) (Bk.new w 9 _).lt,zR.alloc zL _⟩
 |5,_=>
  go_enter Try.func83,Try.ntmps83
  go_wp2
  go_ret2
  exact⟨_,_,rfl,Rd.bk (Bk.new w 9 _) (Bk.new w 9 _).lt,zR.alloc zL _⟩
 |6,_=>
  go_enter Try.func83,Try.ntmps83
  go_wp2
  go_ret2
  exact⟨_,_,rfl,Rd.bk (Bk.new w 9 _) (Bk.new w 9 _).lt,zR.alloc zL _⟩
 |0,_=>
  go_enter Try.func83,Try.ntmps83
  go_wp2
  go_ret2
  exact⟨none,0,rfl,Rd.nil,Below.refl _ _⟩
 |3,_=>
  go_enter Try.func83,Try.ntmps83
  go_wp2
  go_ret2
  exact⟨none,0,rfl,Rd.nil,Below.refl _ _⟩
 |7,_=>
  go_enter Try.func83,Try.ntmps83
  go_wp2
  go_ret2
  exact⟨none,0,rfl,Rd.nil,Below.refl _ _⟩
 |8,_=>
  go_enter Try.func83,Try.ntmps83
  go_wp2
  go_ret2
  exact⟨none,0,rfl,Rd.nil,Below.refl _ _⟩
end Go.Proofs.Ytbjnhllkdilpfaa
