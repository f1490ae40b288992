/- Part 5 of the proof. No conditions. -/
import Derived.Test.YtbjnhllkdilpfaaZdP02
import Derived.Test.YtbjnhllkdilpfaaZdP03
import Derived.Test.YtbjnhllkdilpfaaZdP04
namespace Go.Proofs.Ytbjnhllkdilpfaa
open Go.RowKit
set_option maxRecDepth 100000
set_option maxHeartbeats 16000000
set_option linter.unusedVariables false
set_option linter.unusedSimpArgs false
theorem mP.any {d:Nat} {S:Nat->Prop} {aC:Int} {ks:List Int} {bs:List bQ} {cs:List Value} {w:World} (h:mP d S aC ks bs cs w):mP d (fun _=>True) aC ks bs cs w:=by
 obtain⟨kv,bv,h1,h2,h3⟩:=h;exact⟨kv,bv,h1,h2.keep fun b _ hlt=>⟨trivial,hlt,rfl⟩,h3.keep fun b _ hlt=>⟨trivial,hlt,rfl⟩⟩
theorem mP.old {d:Nat} {S:Nat->Prop} {aC:Int} {ks:List Int} {bs:List bQ} {cs:List Value} {w w':World} (h:mP d S aC ks bs cs w) (hb:Below w.heap.size w w'):mP d S aC ks bs cs w':=by
 obtain⟨kv,bv,h1,h2,h3⟩:=h;exact⟨kv,bv,h1,h2.keep (.old hb),h3.keep (.old hb)⟩
theorem qg.old {d:Nat} {S:Nat->Prop} {aC:Int} {ks:List Int} {bs:List lh} {cs:List Value} {w w':World} (h:qg d S aC ks bs cs w) (hb:Below w.heap.size w w'):qg d S aC ks bs cs w':=by
 obtain⟨kv,bv,h1,h2,h3⟩:=h;exact⟨kv,bv,h1,h2.keep (.old hb),h3.keep (.old hb)⟩
theorem Fq {w : World} {op : Oper} {a : Act} {K : Act → World → Prop} {Q : Exit → Act → World → Prop} {t n : Nat} (hsz : ∀ w, (sizeOf t).run Try.prog w = .ok n w) (hag : ∀ w, (isAgg t).run Try.prog w = .ok true w) (x : Operand) (hop : op.op = Op.load t x) {g o : Nat} (hx : a.eval x = .pointer (some ⟨g, o, none⟩)) (vs : List Value) (hn : vs.length = n) (hc : ∀ (j : Nat) (u : Value), vs[j]? = some u → w.cell? ⟨g, o + j, none⟩ = some u)
  (hK:K (a.put op.dst (.agg vs.toArray)) w):op.wp Try.prog a w K Q:=by
 unfold Oper.wp;simp[execOp,hop,hx,rP hag hsz vs hn hc,Result.andThen];exact hK
section
set_option maxRecDepth 100000
set_option maxHeartbeats 8000000
theorem zAq {d:Nat} {S:Nat->Prop} {aC:Int} {ks:List Int} {bs:List lh} {cs:List Value} {w:World} (h:qg d S aC ks bs cs w) (hs:∀s∈bs,SmS s):Calls Try.prog 5 #[.agg cs.toArray] w fun e w'=>e=.returned (.bool true)/\Below w.heap.size w w':=by
 have HS:=zH hs;have hA:=h;obtain⟨kv,bv,rfl,hk,hb⟩:=h;have o1:kv.oneCell'=true:=hk.one;have o2:bv.oneCell'=true:=hb.one;obtain⟨Ak,ck,rfl⟩:=hk.form;obtain⟨Ab,cb,rfl⟩:=hb.form;clear hk hb o1 o2 hs
 go_enter Try.func5,Try.ntmps5
 go_upto_region 1 with fail
 have k1:=Bk.new w 34 #[.int .i64 aC,.slice Ak ks.length ck,.slice Ab bs.length cb];have hb0:=ba w (.cells #[.int .i64 aC,.slice Ak ks.length ck,.slice Ab bs.length cb] 34);generalize w.alloc (.cells #[.int .i64 aC,.slice Ak ks.length ck,.slice Ab bs.length cb] 34)=w0 at *;have HA:=zH (hA.old hb0);have HG:=zH (X3 (hA.old hb0));have HK:=zH k1;have HB:=zH hb0;clear hA k1 hb0;go_wp2_with (refine iG iY oJ rfl (.tmp 1) rfl rfl [.int .i64 aC,.slice Ak ks.length ck,.slice Ab bs.length cb] rfl (fun i v hv=>by rw[Nat.zero_add,HK.out.cell i];simpa using hv) ?_)
 refine HG.out.mono ?_;rintro e w2 ⟨g,rfl,hgood,hb2⟩;have hb02:Below w.heap.size w w2:=HB.out.trans (hb2.mono HB.out.size);have HB2:=zH hb02;have HK2:=zH (HK.out.old hb2);have HA2:=zH (HA.out.old hb2);clear HG HA HK HB hb2 hb02;cases g
 ·go_wp2_with fail
  refine(zB6 w2).mono ?_;rintro e w3 ⟨rfl,hb3⟩;have HF:=zH (HB2.out.trans (hb3.mono HB2.out.size));clear hb3;go_wp2_with fail
  go_ret
  exact⟨rfl,HF.out⟩
 ·have nP:=zH (hgood rfl);have UW:=zH (X0 HA2.out);clear hgood;go_wp2_with (refine iG iY oJ rfl (.tmp 1) rfl rfl [.int .i64 aC,.slice Ak ks.length ck,.slice Ab bs.length cb] rfl (fun i v hv=>by rw[Nat.zero_add,HK2.out.cell i];simpa using hv) ?_)
  refine UW.out.mono ?_;rintro e w3 ⟨_,rfl,hA3,hb3⟩;obtain⟨kv,bv,rfl,hk,hb⟩:=hA3;obtain⟨Ax,cx,rfl⟩:=hk.form;obtain⟨Ay,cy,rfl⟩:=hb.form;have H3:=zH (And.intro hk (And.intro hb hb3));clear hk hb hb3 UW;go_upto_region 4 with(refine ae iY rfl _ _ rfl rfl [.int .i64 aC,.slice Ax ks.length cx,.slice Ay bs.length cy] rfl (Bk.new _ _ _) rfl rfl rfl ?_;intro W p;go_frame)
  have hb4:Below w3.heap.size w3 W:=p.below _ _ (ba _ _) zL;have WX:Below w2.heap.size w2 W:=H3.out.2.2.trans (hb4.mono H3.out.2.2.size);have HX:Hid (qg d (fun q=>w2.heap.size<=q) aC ks bs [.int .i64 aC,.slice Ax ks.length cx,.slice Ay bs.length cy] W):=zH ⟨_,_,rfl,H3.out.1.keep (.old hb4),H3.out.2.1.keep (.old hb4)⟩;have HA4:=zH (HA2.out.old WX);have Ci:=zH p.bk;have U8:=zH (HK2.out.old WX);have HB4:=zH (HB2.out.trans (WX.mono HB2.out.size));have hlt3:=HB4.out.size;have hlw:w.heap.size<W.heap.size:=by have:=U8.out.lt;omega
  clear p hb4 WX HA2 HK2 HB2 H3
  refine wx (fun k=>false) [.is (.bool true),.is (.bool true),.is (.agg #[.int .i64 aC,.slice Ax ks.length cx,.slice Ay bs.length cy]),.st (fun v w=>∃cs':List Value,v=.agg cs'.toArray/\mP d (fun _=>True) aC ks (eH (zu bs bs.length)) cs' w) (fun _ _ _ hb ⟨cs',h1,h2⟩=>⟨cs',h1,h2.old hb⟩),
   .is (.agg #[.int .i64 aC,.slice Ak ks.length ck,.slice Ab bs.length cb]),.st (fun v w=>∃cs':List Value,v=.agg cs'.toArray/\mP d (fun _=>True) aC ks (eH (zu bs bs.length)) cs' w) (fun _ _ _ hb ⟨cs',h1,h2⟩=>⟨cs',h1,h2.old hb⟩),.is (.bool true),.is (.bool true),.is (.bool true),
   .is (.agg #[.int .i64 aC,.slice Ax ks.length cx,.slice Ay bs.length cy]),.is (.agg #[.int .i64 aC,.slice Ak ks.length ck,.slice Ab bs.length cb]),.is (.bool true),.is (.bool true),.is (.bool true)] [0,2,3,4,5,6,9,10,11] (by kernel_rfl) (by kernel_rfl) (by kernel_rfl)
   (fun C=>.c (pz [] [] (by kernel_rfl) fun qK qa wr hB qO qF hK=>?_) <| .c (px C rfl (fun _ _=>rfl)) <| .c (pz [] [3] (by kernel_rfl) fun qK qa wr hB qO qF hK=>?_) <| .c (pz [2] [] (by kernel_rfl) fun qK qa wr hB qO qF hK=>?_) <| .c (pz [] [1] (by kernel_rfl) fun qK qa wr hB qO qF hK=>?_) <| .c (pz [4] [] (by kernel_rfl) fun qK qa wr hB qO qF hK=>?_) <|
    .c (pz [3,5] [] (by kernel_rfl) fun qK qa wr hB qO qF hK=>?_) <| .c (px C rfl (fun _ _=>rfl)) <| .c (px C rfl (fun _ _=>rfl)) <| .c (pz [] [3] (by kernel_rfl) fun qK qa wr hB qO qF hK=>?_) <| .c (pz [] [1] (by kernel_rfl) fun qK qa wr hB qO qF hK=>?_) <| .c (pz [9,10] [] (by kernel_rfl) fun qK qa wr hB qO qF hK=>?_) <|
    .c (px C rfl (fun _ _=>rfl)) <| .c (px C rfl (fun _ _=>rfl)) .nil) ?_
  ·clear qO qF;go_simp
   go_at_call 7
   refine(zB6 _).mono ?_;rintro e w5 ⟨rfl,h5⟩;exact hK _ _ h5 rfl
  ·exact Fq iY oJ (.tmp 3) rfl (aK (qO.1.trans rfl)) [.int .i64 aC,.slice Ax ks.length cx,.slice Ay bs.length cy] rfl (fun i u hu=>by rw[Nat.zero_add,(Ci.out.old hB).cell i];simpa using hu) (hK _ _ zR rfl)
  ·have e12:=ay qF.1 rfl rfl;clear qO qF;go_simp
   go_at_call 15
   refine(zBn nP.out (Ui HS.out) (zAk HS.out _) (HX.out.old hB)).mono ?_;rintro e w5 ⟨cs',rfl,h5,h6⟩;exact hK _ _ h6 ⟨cs',rfl,h5.any⟩
  ·exact Fq iY oJ (.tmp 1) rfl (aK (qO.1.trans rfl)) [.int .i64 aC,.slice Ak ks.length ck,.slice Ab bs.length cb] rfl (fun i u hu=>by rw[Nat.zero_add,(U8.out.old hB).cell i];simpa using hu) (hK _ _ zR rfl)
  ·have e14:=ay qF.1 rfl rfl;clear qO qF;go_simp
   go_at_call 16
   refine(X5 nP.out (Ui HS.out) (HA4.out.old hB)).mono ?_;rintro e w5 ⟨cs',rfl,h5,h6⟩;exact hK _ _ h6 ⟨cs',rfl,h5.any⟩
  ·obtain⟨u13,e13,cs1,rfl,h1⟩:=qF.1;obtain⟨u15,e15,cs2,rfl,h2⟩:=qF.2.1;have e13:qa.tmps[13]? =some (.agg cs1.toArray):=e13;have e15:qa.tmps[15]? =some (.agg cs2.toArray):=e15;clear qO qF;go_simp
   go_at_call 14
   refine(zAn h1 h2).mono ?_;rintro e w5 ⟨rfl,h5⟩;exact hK _ _ h5 rfl
  ·exact Fq iY oJ (.tmp 3) rfl (aK (qO.1.trans rfl)) [.int .i64 aC,.slice Ax ks.length cx,.slice Ay bs.length cy] rfl (fun i u hu=>by rw[Nat.zero_add,(Ci.out.old hB).cell i];simpa using hu) (hK _ _ zR rfl)
  ·exact Fq iY oJ (.tmp 1) rfl (aK (qO.1.trans rfl)) [.int .i64 aC,.slice Ak ks.length ck,.slice Ab bs.length cb] rfl (fun i u hu=>by rw[Nat.zero_add,(U8.out.old hB).cell i];simpa using hu) (hK _ _ zR rfl)
  ·have e19:=ay qF.1 rfl rfl;have e20:=ay qF.2.1 rfl rfl;clear qO qF;go_simp
   go_at_call 17
   refine(zAm (HX.out.old hB) (HA4.out.old hB)).mono ?_;rintro e w5 ⟨rfl,h5⟩;exact hK _ _ h5 rfl
  intro qx w6 Xe hR hS;clear hR hS;simp only[bJ,List.length,List.take,List.drop,List.toList_toArray];have HF:=zH (HB4.out.trans (Xe.mono HB4.out.size));refine zn ?_
  go_frame
  go_wp2_with fail
  go_ret
  exact⟨rfl,HF.out⟩
end
end Go.Proofs.Ytbjnhllkdilpfaa
