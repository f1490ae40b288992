/- Part 15 of the proof. No conditions. -/
import Derived.Test.YtbjnhllkdilpfaaZb14
namespace Go.Proofs.Ytbjnhllkdilpfaa
open Go.RowKit
set_option linter.unusedSimpArgs false
set_option linter.unusedVariables false
set_option maxHeartbeats 16000000
set_option maxRecDepth 100000
def pV (P:Nat->Prop) (w:World) (B:Nat) (e:au) (v:Value) (W:World):Prop:=
 ∃css:List (List Value),W.ownsRow B 118 7 v css.length css.flatten/\ji P w (jA e) css
theorem pV.old {P:Nat->Prop} {w W W':World} {B:Nat} {e:au} {v:Value} (h:pV P w B e v W) (hb:Below W.heap.size W W'):pV P w B e v W':=by
 obtain⟨css,h1,h2⟩:=h;exact⟨css,aP h1 hb,h2⟩
def Vx (P:Nat->Prop) (w:World) (bx g:Nat) (x y:au) (x0 x1 x2 x3 x4 x5 x6 y0 y1 y2 y3 y4 y5 y6:Value):List Spec:=[.is (.pointer (some ⟨bx,1,none⟩)),
 .is (.slice (some ⟨g,0,none⟩) 2 2),
 .is (.pointer (some ⟨g,0,none⟩)),
 .is (.agg #[x0,x1,x2,x3,x4,x5,x6]),
 .st (pV P w bx x) (fun _ _ _ hb h=>pV.old h hb),
 .is (.pointer (some ⟨bx,1,none⟩)),
 .is (.slice (some ⟨g,0,none⟩) 2 2),
 .is (.pointer (some ⟨g,0+7,none⟩)),
 .is (.agg #[y0,y1,y2,y3,y4,y5,y6]),
 .st (pV P w bx y) (fun _ _ _ hb h=>pV.old h hb)]
theorem NJ {P : Nat → Prop} (x y : au) (g p : Nat) (x0 x1 x2 x3 x4 x5 x6 y0 y1 y2 y3 y4 y5 y6 : Value) (w : World) (hP : ∀ q, P q → q < w.heap.size) (hk : Bk w g 118 #[x0, x1, x2, x3, x4, x5, x6, y0, y1, y2, y3, y4, y5, y6])
  (hx:∀W,Below w.heap.size w W->Calls Try.prog 56 #[.agg #[x0,x1,x2,x3,x4,x5,x6]] W (Jr P x W)) (hy:∀W,Below w.heap.size w W->Calls Try.prog 56 #[.agg #[y0,y1,y2,y3,y4,y5,y6]] W (Jr P y W)) (hs:aG x+aG y<=1000000):
  Calls Try.prog 56 #[.agg #[.int .i64 13,.slice (some ⟨g,0,none⟩) 2 2,.int .i64 0,.int .i64 0,.string ⟨#[]⟩,.string ⟨#[]⟩,.int .i64 p]] w (Jr P (.bin 13 x y p) w):=by
 have HX:Hid (∀W,Below w.heap.size w W->Calls Try.prog 56 #[.agg #[x0,x1,x2,x3,x4,x5,x6]] W fun r W'=>∃v,r=.returned v/\pV P w w.heap.size x v W'/\Below W.heap.size W W'):=zH fun W hW=>(hx W hW).mono (by
  rintro r W' ⟨v,css,rfl,h1,h2,h3⟩
  exact⟨v,rfl,⟨css,dF h1 hW.size,h2.keep fun q hq _=>⟨hq,(hW.block q (hP q hq)).symm⟩⟩,h3⟩)
 have HY:Hid (∀W,Below w.heap.size w W->Calls Try.prog 56 #[.agg #[y0,y1,y2,y3,y4,y5,y6]] W fun r W'=>∃v,r=.returned v/\pV P w w.heap.size y v W'/\Below W.heap.size W W'):=zH fun W hW=>(hy W hW).mono (by
  rintro r W' ⟨v,css,rfl,h1,h2,h3⟩
  exact⟨v,rfl,⟨css,dF h1 hW.size,h2.keep fun q hq _=>⟨hq,(hW.block q (hP q hq)).symm⟩⟩,h3⟩)
 obtain⟨iT,hT,hT0,hT1,hT2⟩:=info_parts Nr;have hgw:=hk.lt;have hnx:=ou x;have hny:=ou y
 go_enter Try.func56,Try.ntmps56
 have kb:=Bk.new w 118 #[.int .i64 13,.slice (some ⟨g,0,none⟩) 2 2,.int .i64 0,.int .i64 0,.string ⟨#[]⟩,.string ⟨#[]⟩,.int .i64 p];have hb0:Below w.heap.size w (w.alloc (.cells #[.int .i64 13,.slice (some ⟨g,0,none⟩) 2 2,.int .i64 0,.int .i64 0,.string ⟨#[]⟩,.string ⟨#[]⟩,.int .i64 p] 118)):=zR.alloc zL _;have b0:(w.alloc (.cells #[.int .i64 13,.slice (some ⟨g,0,none⟩) 2 2,.int .i64 0,.int .i64 0,.string ⟨#[]⟩,.string ⟨#[]⟩,.int .i64 p] 118)).cell? ⟨w.heap.size,0,none⟩=some (.int .i64 13):=kb.cell 0;have b1:(w.alloc (.cells #[.int .i64 13,.slice (some ⟨g,0,none⟩) 2 2,.int .i64 0,.int .i64 0,.string ⟨#[]⟩,.string ⟨#[]⟩,.int .i64 p] 118)).cell? ⟨w.heap.size,1,none⟩=some (.slice (some ⟨g,0,none⟩) 2 2):=kb.cell 1;have hk0:=hk.old hb0;have q0:(w.alloc (.cells #[.int .i64 13,.slice (some ⟨g,0,none⟩) 2 2,.int .i64 0,.int .i64 0,.string ⟨#[]⟩,.string ⟨#[]⟩,.int .i64 p] 118)).cell? ⟨g,0,none⟩=some x0:=hk0.cell 0;have q1:(w.alloc (.cells #[.int .i64 13,.slice (some ⟨g,0,none⟩) 2 2,.int .i64 0,.int .i64 0,.string ⟨#[]⟩,.string ⟨#[]⟩,.int .i64 p] 118)).cell? ⟨g,1,none⟩=some x1:=hk0.cell 1;have q2:(w.alloc (.cells #[.int .i64 13,.slice (some ⟨g,0,none⟩) 2 2,.int .i64 0,.int .i64 0,.string ⟨#[]⟩,.string ⟨#[]⟩,.int .i64 p] 118)).cell? ⟨g,2,none⟩=some x2:=hk0.cell 2;have q3:(w.alloc (.cells #[.int .i64 13,.slice (some ⟨g,0,none⟩) 2 2,.int .i64 0,.int .i64 0,.string ⟨#[]⟩,.string ⟨#[]⟩,.int .i64 p] 118)).cell? ⟨g,3,none⟩=some x3:=hk0.cell 3
 have q4:(w.alloc (.cells #[.int .i64 13,.slice (some ⟨g,0,none⟩) 2 2,.int .i64 0,.int .i64 0,.string ⟨#[]⟩,.string ⟨#[]⟩,.int .i64 p] 118)).cell? ⟨g,4,none⟩=some x4:=hk0.cell 4;have q5:(w.alloc (.cells #[.int .i64 13,.slice (some ⟨g,0,none⟩) 2 2,.int .i64 0,.int .i64 0,.string ⟨#[]⟩,.string ⟨#[]⟩,.int .i64 p] 118)).cell? ⟨g,5,none⟩=some x5:=hk0.cell 5;have q6:(w.alloc (.cells #[.int .i64 13,.slice (some ⟨g,0,none⟩) 2 2,.int .i64 0,.int .i64 0,.string ⟨#[]⟩,.string ⟨#[]⟩,.int .i64 p] 118)).cell? ⟨g,6,none⟩=some x6:=hk0.cell 6;have q7:(w.alloc (.cells #[.int .i64 13,.slice (some ⟨g,0,none⟩) 2 2,.int .i64 0,.int .i64 0,.string ⟨#[]⟩,.string ⟨#[]⟩,.int .i64 p] 118)).cell? ⟨g,0+7,none⟩=some y0:=hk0.cell 7;have q8:(w.alloc (.cells #[.int .i64 13,.slice (some ⟨g,0,none⟩) 2 2,.int .i64 0,.int .i64 0,.string ⟨#[]⟩,.string ⟨#[]⟩,.int .i64 p] 118)).cell? ⟨g,0+7+1,none⟩=some y1:=hk0.cell 8;have q9:(w.alloc (.cells #[.int .i64 13,.slice (some ⟨g,0,none⟩) 2 2,.int .i64 0,.int .i64 0,.string ⟨#[]⟩,.string ⟨#[]⟩,.int .i64 p] 118)).cell? ⟨g,0+7+2,none⟩=some y2:=hk0.cell 9;have q10:(w.alloc (.cells #[.int .i64 13,.slice (some ⟨g,0,none⟩) 2 2,.int .i64 0,.int .i64 0,.string ⟨#[]⟩,.string ⟨#[]⟩,.int .i64 p] 118)).cell? ⟨g,0+7+3,none⟩=some y3:=hk0.cell 10;have q11:(w.alloc (.cells #[.int .i64 13,.slice (some ⟨g,0,none⟩) 2 2,.int .i64 0,.int .i64 0,.string ⟨#[]⟩,.string ⟨#[]⟩,.int .i64 p] 118)).cell? ⟨g,0+7+4,none⟩=some y4:=hk0.cell 11
 have q12:(w.alloc (.cells #[.int .i64 13,.slice (some ⟨g,0,none⟩) 2 2,.int .i64 0,.int .i64 0,.string ⟨#[]⟩,.string ⟨#[]⟩,.int .i64 p] 118)).cell? ⟨g,0+7+5,none⟩=some y5:=hk0.cell 12;have q13:(w.alloc (.cells #[.int .i64 13,.slice (some ⟨g,0,none⟩) 2 2,.int .i64 0,.int .i64 0,.string ⟨#[]⟩,.string ⟨#[]⟩,.int .i64 p] 118)).cell? ⟨g,0+7+6,none⟩=some y6:=hk0.cell 13;go_upto_region 1 with fail
 clear hx hy hk hk0 kb;generalize w.alloc (.cells #[.int .i64 13,.slice (some ⟨g,0,none⟩) 2 2,.int .i64 0,.int .i64 0,.string ⟨#[]⟩,.string ⟨#[]⟩,.int .i64 p] 118)=w0 at *;have hbx:w.heap.size<w0.heap.size:=World.block_lt_of_cell? _ _ b0;go_upto_region 3 with fail
 generalize hbxn:w.heap.size=bx at *;have hbs:bx<=w0.heap.size:=by omega
 refine cZ 10 (fun k=>false) (by kernel_rfl) (fun qk=>(Vx P w bx g x y x0 x1 x2 x3 x4 x5 x6 y0 y1 y2 y3 y4 y5 y6).getD qk .any) (by kernel_rfl) ?_ ?_
 ·refine aj.cons rfl [] [1] rfl rfl (by kernel_rfl) (by kernel_rfl) (fun qK qa wr hB qO qF hK=>?_) ?_
  ·have e1:qa.tmps[1]? =some (.pointer (some ⟨bx,0,none⟩)):=qO.1.trans rfl;clear qO qF;go_simp;exact hK _ _ zR rfl
  refine aj.cons rfl [0] [] rfl rfl (by kernel_rfl) (by kernel_rfl) (fun qK qa wr hB qO qF hK=>?_) ?_
  ·have e8:=aH qF.1 rfl rfl;clear qO qF;have hb1:=zE hB b1;go_simp;exact hK _ _ zR rfl
  refine aj.cons rfl [1] [] rfl rfl (by kernel_rfl) (by kernel_rfl) (fun qK qa wr hB qO qF hK=>?_) ?_
  ·have e9:=aH qF.1 rfl rfl;clear qO qF;go_simp;exact hK _ _ zR rfl
  refine aj.cons rfl [2] [] rfl rfl (by kernel_rfl) (by kernel_rfl) (fun qK qa wr hB qO qF hK=>?_) ?_
  ·have e10:=aH qF.1 rfl rfl;clear qO qF;have hq0:=zE hB q0;have hq1:=zE hB q1;have hq2:=zE hB q2;have hq3:=zE hB q3;have hq4:=zE hB q4;have hq5:=zE hB q5;have hq6:=zE hB q6;go_simp;exact hK _ _ zR rfl
  refine aj.cons rfl [3] [] rfl rfl (by kernel_rfl) (by kernel_rfl) (fun qK qa wr hB qO qF hK=>?_) ?_
  ·have e11:=aH qF.1 rfl rfl;clear qO qF;go_simp
   go_at_call 56
   refine(HX.out wr (hb0.trans (hB.mono hbs))).mono ?_;rintro r w9 ⟨v9,rfl,XV,dZ⟩;exact hK _ _ dZ XV
  refine aj.cons rfl [] [1] rfl rfl (by kernel_rfl) (by kernel_rfl) (fun qK qa wr hB qO qF hK=>?_) ?_
  ·have e1:qa.tmps[1]? =some (.pointer (some ⟨bx,0,none⟩)):=qO.1.trans rfl;clear qO qF;go_simp;exact hK _ _ zR rfl
  refine aj.cons rfl [5] [] rfl rfl (by kernel_rfl) (by kernel_rfl) (fun qK qa wr hB qO qF hK=>?_) ?_
  ·have e13:=aH qF.1 rfl rfl;clear qO qF;have hb1:=zE hB b1;go_simp;exact hK _ _ zR rfl
  refine aj.cons rfl [6] [] rfl rfl (by kernel_rfl) (by kernel_rfl) (fun qK qa wr hB qO qF hK=>?_) ?_
  ·have e14:=aH qF.1 rfl rfl;clear qO qF;go_simp;exact hK _ _ zR rfl
  refine aj.cons rfl [7] [] rfl rfl (by kernel_rfl) (by kernel_rfl) (fun qK qa wr hB qO qF hK=>?_) ?_
  ·have e15:=aH qF.1 rfl rfl;clear qO qF;have hq7:=zE hB q7;have hq8:=zE hB q8;have hq9:=zE hB q9;have hq10:=zE hB q10;have hq11:=zE hB q11;have hq12:=zE hB q12;have hq13:=zE hB q13;go_simp;exact hK _ _ zR rfl
  refine aj.cons rfl [8] [] rfl rfl (by kernel_rfl) (by kernel_rfl) (fun qK qa wr hB qO qF hK=>?_) ?_
  ·have e16:=aH qF.1 rfl rfl;clear qO qF;go_simp
   go_at_call 56
   refine(HY.out wr (hb0.trans (hB.mono hbs))).mono ?_;rintro r w9 ⟨v9,rfl,XV,dZ⟩;exact hK _ _ dZ XV
  exact aj.nil
 intro vals wr hl hB hR hS
 match vals,hl with
 |[z8,z9,z10,z11,z12,z13,z14,z15,YX,z17],_=>
 have r4:(pV P w bx x) z12 wr:=hR 4 _ rfl;have r9:(pV P w bx y) z17 wr:=hR 9 _ rfl;clear hS;clear hR;simp only[List.take_succ_cons,List.take_zero,List.drop_succ_cons,List.drop_zero,List.toList_toArray,List.cons_append,List.nil_append,aN,Act.put,List.setIfInBounds_toArray,List.set_cons_zero,List.set_cons_succ];obtain⟨css,Vy,hc12⟩:=r4;obtain⟨XU,Vz,hc17⟩:=r9;obtain⟨hl1,hl2,hl3⟩:=hc12.len;obtain⟨hm1,hm2,hm3⟩:=hc17.len;obtain⟨Ax,cx,rfl,_⟩:=bF Vy;obtain⟨Ay,cy,rfl,_⟩:=bF Vz;have hbw:=hb0.trans (hB.mono hbs);have hr17:=bP Vz;have HC:=zH (ji.app hc12 hc17);have wY:=zH hbw;have HM:=zH hm3;clear hc12 hc17 hl3 hm3 Vz b0 b1 q0 q1 q2 q3 q4 q5 q6 q7 q8 q9 q10 q11 q12 q13 HX HY;go_wp2_with (at_builtin;refine az rfl _ _ 78 rfl bx 118 iT _ 7 88 Try.underlying78 hT hT0 hT1 hT2 rfl (by decide) (.slice Ax css.length cx) css.length _ rfl Vy wr.heap.size Ay XU.length cy XU.flatten rfl hr17 hm2 HM.out (by unfold maxLen;omega) (by omega) (by have:=hbw.size;omega) ?_;intro A4 c4 w4 ho4 hg4 hat;refine Hid.out ?_)
 refine zH ?_;go_wp2
 go_ret
 subst hbxn;have hfl:jA (.bin 13 x y p)=jA x++jA y:=by show(if 13=13 then _ else _)=_;rw[if_pos rfl]
 refine⟨_,css++XU,rfl,?_,by rw[hfl];exact HC.out,gU wY.out Vy (by omega) hg4 (by have:=wY.out.size;omega)⟩;rw[List.length_append,List.flatten_append];exact ho4
end Go.Proofs.Ytbjnhllkdilpfaa
namespace Go.Proofs.Ytbjnhllkdilpfaa
open Go.RowKit
set_option linter.unusedSimpArgs false
set_option linter.unusedVariables false
set_option maxRecDepth 10000
theorem zn {P : Nat → Prop} : ∀ (e : au) (cs : List Value) (w : World), (∀ q, P q → q < w.heap.size) → kN P w e cs → sJ e → aG e ≤ 1000000 →
  Calls Try.prog 56 #[.agg cs.toArray] w (Jr P e w)
 |.leaf op n sc nm a p,cs,w,hP,h,hp,hs=>by
  have h0:=h;obtain rfl:cs=iC op n sc nm a p:=h;refine(zl op hp _ _ _ _ _ _ w).mono ?_;rintro r w' ⟨v,rfl,h1,h2⟩;exact⟨v,[iC op n sc nm a p],rfl,by simpa[iC]using h1,⟨h0,trivial⟩,h2⟩
 |.un op x p,cs,w,hP,h,hp,hs=>by
  have h0:=h;obtain⟨g,xs,rfl,_⟩:=h;refine(zl op hp.1 _ _ _ _ _ _ w).mono ?_;rintro r w' ⟨v,rfl,h1,h2⟩;exact⟨v,[opC op g 1 p],rfl,by simpa[opC]using h1,⟨h0,trivial⟩,h2⟩
 |.bin op x y p,cs,w,hP,h,hp,hs=>by
  have h0:=h;obtain⟨g,xs,ys,rfl,hPg,hk,hx,hy⟩:=h
  by_cases h13:op=13
  ·subst h13;have hs:1+aG x+aG y<=1000000:=hs;obtain⟨x0,x1,x2,x3,x4,x5,x6,rfl,_⟩:=hx.seven;obtain⟨y0,y1,y2,y3,y4,y5,y6,rfl,_⟩:=hy.seven
   exact NJ x y g p x0 x1 x2 x3 x4 x5 x6 y0 y1 y2 y3 y4 y5 y6 w hP hk
    (fun W hW=>zn x _ W (fun q hq=>Nat.lt_of_lt_of_le (hP q hq) hW.size) (hx.old hW) hp.1 (by omega))
    (fun W hW=>zn y _ W (fun q hq=>Nat.lt_of_lt_of_le (hP q hq) hW.size) (hy.old hW) hp.2 (by omega)) (by omega)
  ·have hfl:jA (.bin op x y p)=[.bin op x y p]:=by show(if op=13 then _ else _)=_;rw[if_neg h13]
   refine(zl op h13 _ _ _ _ _ _ w).mono ?_;rintro r w' ⟨v,rfl,h1,h2⟩;exact⟨v,[opC op g 2 p],rfl,by simpa[opC]using h1,by rw[hfl];exact⟨h0,trivial⟩,h2⟩
structure um (s:PS) (r:au×PS):Prop where
 nodes:aG r.1<=1+2*(r.2.i-s.i)
 plain:sJ r.1
section
variable {L:List aA}
theorem YY (s:PS):um s (yN,s):=⟨by show 1<=_;omega,by show(0:Nat)≠13;decide⟩
theorem Dq (pos:Nat) (s:PS):∀(l:List Str) (i op:Nat) (n a:Str) (x:PS),op=0\/25<=op->(iU L pos i l (op,n,a,x)).1=0\/25<=(iU L pos i l (op,n,a,x)).1
 |[],_,_,_,_,_,h=>h
 |w::l,i,op,n,a,x,h=>by
  rw[yY]
  split
  ·obtain⟨n1,a1,x1⟩:Str×Str×PS:=MK L x i;exact Dq pos s l _ _ _ _ _ (.inr (by omega))
  ·exact Dq pos s l _ _ _ _ _ h
theorem NK (pos:Nat) (s:PS):um s (dP L pos s):=by
 have h:=Dq (L:=L) pos s je 0 0 [] [] s (.inl rfl);unfold dP;generalize iU L pos 0 je (0,[],[],s)=r at *;obtain⟨op,n,a,x⟩:=r;simp only at h;refine⟨?_,?_⟩
 ·show 1<=_;omega
 ·show op≠13;omega
theorem um.leaf {s s':PS} {op n sc p:Nat} {nm a:Str} (h:op≠13):um s (.leaf op n sc nm a p,s'):=⟨by show 1<=_;omega,h⟩
theorem NP (he:dL L) (lv:PS->au×PS) (hlv:∀s,gm L s->um s (lv s)) (hgo:∀s,gm L s->bn L s (lv s).2) (s:PS) (h:gm L s):um s (pK L lv s):=by
 unfold pK;simp only[]
 split
 ·exact um.leaf (by decide)
 split
 ·exact um.leaf (by decide)
 split
 ·exact um.leaf (by decide)
 split
 ·exact um.leaf (by decide)
 split
 ·rename_i hc
  have hk:=bG hc;have h1:=(iH he h hk).1;have h2:=hlv _ h1;have h3:=hgo _ h1;have h4:=(bn.need he [41] h3.ok).le;have h5:(aQ L s).i=s.i+1:=(iH he h hk).2.1;refine⟨Nat.le_trans h2.nodes ?_,h2.plain⟩
  show 1+2*((lv (aQ L s)).2.i-(aQ L s).i)<=1+2*((ay L [41] (lv (aQ L s)).2).i - s.i)
  omega
 split
 ·exact um.leaf (by decide)
 split
 ·rename_i hc
  have hk:(bf L s).kind≠0:=by
   rcases Bool.or_eq_true_iff.1 hc with hc|hc<;>exact bG hc
  have h0:=(iH he h hk).1;have h1:=bn.need he [40] h0;have h2:=hlv _ h1.ok;have h3:=hgo _ h1.ok;have h4:=(bn.need he [41] h3.ok).le;have h5:(aQ L s).i=s.i+1:=(iH he h hk).2.1;have h6:=h1.le;have h7:=h2.nodes;have h8:=h3.le;refine⟨?_,⟨by split<;>decide,h2.plain⟩⟩
  show 1+aG (lv (ay L [40] (aQ L s))).1<=1+2*((ay L [41] (lv (ay L [40] (aQ L s))).2).i - s.i)
  omega
 ·exact NK _ s
theorem EU (he:dL L) (lv:PS->au×PS) (hlv:∀s,gm L s->um s (lv s)) (hgo:∀s,gm L s->bn L s (lv s).2) (level:Nat) (s0:PS):∀(k:Nat) (x:au) (s:PS),gm L s->s0.i<=s.i->aG x<=1+2*(s.i-s0.i)->sJ x->um s0 (pJ L lv level k x s)
 |0,x,s,h,h1,h2,h3=>⟨h2,h3⟩
 |k+1,x,s,h,h1,h2,h3=>by
  rw[EN]
  split
  ·exact⟨h2,h3⟩
  split
  ·exact⟨h2,h3⟩
  rename_i hop
  have hk:=EP hop;have g1:=bn.next he h hk;have f1:=hlv _ g1.ok;have g2:=hgo _ g1.ok;have h5:s.i+1<=(lv (aO s)).2.i:=g2.le;have h6:aG (lv (aO s)).1<=1+2*((lv (aO s)).2.i-(s.i+1)):=f1.nodes
  have hn:aG (.bin (Qj L level s) x (lv (aO s)).1 (bf L s).pos)<=1+2*((lv (aO s)).2.i-s0.i):=by
   show 1+aG x+aG (lv (aO s)).1<=_
   omega
  split
  ·exact⟨hn,h3,f1.plain⟩
  ·exact EU he lv hlv hgo level s0 k _ _ g2.ok (by omega) hn ⟨h3,f1.plain⟩
theorem kZ (he:dL L):∀(f level:Nat) (s:PS),gm L s->um s (aB L f level s)
 |0,_,s,h=>YY s
 |f+1,level,s,h=>by
  rw[BO]
  split
  ·exact YY s
  split
  ·unfold rW
   split
   ·rename_i hc
    have hk:=bG hc;have h1:=(iH he h hk).1;have h2:=kZ he f level _ h1;have h3:=(dV he f level _ h1).le;have h5:(aQ L s).i=s.i+1:=(iH he h hk).2.1;have h6:=h2.nodes;refine⟨?_,⟨by unfold En;split<;>decide,h2.plain⟩⟩
    show 1+aG (aB L f level (aQ L s)).1<=1+2*((aB L f level (aQ L s)).2.i-s.i)
    omega
   ·exact kZ he f _ s h
  split
  ·exact NP he _ (fun s h=>kZ he f 1 s h) (fun s h=>dV he f 1 s h) s h
  ·have h1:=kZ he f (level+1) s h;have h2:=dV he f (level+1) s h;exact EU he _ (fun s h=>kZ he f (level+1) s h) (fun s h=>dV he f (level+1) s h) level s _ _ _ h2.ok h2.le h1.nodes h1.plain
theorem EW (he:dL L) (i:Nat) (hi:i<L.length):aG (lD L i).1<=1+2*L.length/\sJ (lD L i).1/\((lD L i).2.2.2=0->i<=(lD L i).2.1/\(lD L i).2.1<L.length):=by
 have hok:gm L ⟨i,0,0,0⟩:=⟨hi,Nat.zero_le _⟩
 have h1:=kZ he (jZ L) 1 _ hok;have h2:=dV he (jZ L) 1 _ hok;have hR:lD L i=if(aB L (jZ L) 1 ⟨i,0,0,0⟩).2.err≠0 then(yN,0,(aB L (jZ L) 1 ⟨i,0,0,0⟩).2.pos,(aB L (jZ L) 1 ⟨i,0,0,0⟩).2.err)else((aB L (jZ L) 1 ⟨i,0,0,0⟩).1,(aB L (jZ L) 1 ⟨i,0,0,0⟩).2.i,0,0):=rfl
 rw[hR]
 split
 ·rename_i hc
  refine⟨by show 1<=_;omega,by show(0:Nat)≠13;decide,fun h=>absurd h hc⟩
 ·have:=h1.nodes;have:=h2.ok.lt;have:=h2.le;exact⟨by show aG (aB L (jZ L) 1 ⟨i,0,0,0⟩).1<=1+2*L.length;omega,h1.plain,fun _=>⟨h2.le,h2.ok.lt⟩⟩
end
end Go.Proofs.Ytbjnhllkdilpfaa
namespace Go.Proofs.Ytbjnhllkdilpfaa
open Go.RowKit
set_option linter.unusedSimpArgs false
set_option linter.unusedVariables false
set_option maxHeartbeats 16000000
set_option maxRecDepth 100000
def bu.cells (x:bu):List Value:=[.int .i64 x.form,.string (bytes x.type),.string (bytes x.name),.int .i64 x.pos]
theorem vT {L:List aA} {s:PS} {n:Nat} (h:(decide (n=8)&&(decide ((bf L s).kind=2)||eQ L s [33]))=true):jg L n s=(⟨0,[],[],0⟩,aW L 2 s):=by
 unfold jg;simp only[];rw[if_pos (by simpa using h)]
structure TU (b:Nat) (t:TypeId) (rest:List Value) (L:List aA) (LA:Option Addr) (Lc:Nat) (gr g5:Nat) (T:aA) (w:World) (x:PS) (W:World):Prop where
 st:di b t rest L LA Lc x W
 kr:Bk W gr 126 #[.int .i64 0,.string ⟨#[]⟩,.string ⟨#[]⟩,.int .i64 0]
 k5:Bk W g5 102 #[.int .i64 T.kind,.string (bytes T.text),.int .i64 T.n,.int .i64 T.scale,.int .i64 T.pos]
 gw:w.grownBy W (some b)
section
variable {b:Nat} {t:TypeId} {rest:List Value} {L:List aA} {LA:Option Addr} {Lc gr g5:Nat} {T:aA} {w W W':World} {x y:PS}
theorem TU.old (h:TU b t rest L LA Lc gr g5 T w x W) (hb:Below W.heap.size W W'):TU b t rest L LA Lc gr g5 T w x W':=
 ⟨h.st.old hb,h.kr.old hb,h.k5.old hb,h.gw.trans (below_grown hb (some b))⟩
theorem TU.steps (h:TU b t rest L LA Lc gr g5 T w x W) (hbr:b<gr) (hb5:b<g5) (hs:Steps b t rest L LA Lc y W W'):TU b t rest L LA Lc gr g5 T w y W':=
 ⟨hs.st,h.kr.grown hs.grown (aC (by omega)),h.k5.grown hs.grown (aC (by omega)),h.gw.trans hs.grown⟩
end
theorem NR:(Try.prog.info? 126).map (fun i=>(i.zero,i.size,i.bytes))=some (some (.agg #[.int .i64 0,.string ⟨#[]⟩,.string ⟨#[]⟩,.int .i64 0]),4,48):=by kernel_rfl
theorem vU (w:World):(sizeOf 126).run Try.prog w=.ok 4 w:=by
 obtain⟨i,hi,h0,h1,h2⟩:=info_parts NR;simp[sizeOf,typeInfo,hi,h1]
theorem Dt {L : List aA} {s : PS} {n : Nat} (h : (decide (n = 8) && (decide ((bf L s).kind = 2) || eQ L s [33])) = false) :
  jg L n s=(
   let neg:=eQ L s [33]
   let s1:=if neg then aO s else s
   let plus:=decide ((dD L s1).2.err=0)&&(!neg&&eQ L (dD L s1).2 [43])
   let s3:=if plus then aO (dD L s1).2 else(dD L s1).2
   (⟨if neg then 3 else if plus then 2 else 1,(dD L s1).1,(dD L s3).1,(bf L s).pos⟩,(dD L s3).2)):=by
 unfold jg;simp only[];rw[if_neg (by simpa using h)]
structure GR (b:Nat) (t:TypeId) (rest:List Value) (L:List aA) (LA:Option Addr) (Lc:Nat) (gr g6:Nat) (cs:List Value) (w:World) (x:PS) (W:World):Prop where
 st:di b t rest L LA Lc x W
 kr:Bk W gr 126 #[.int .i64 0,.string ⟨#[]⟩,.string ⟨#[]⟩,.int .i64 0]
 k6:Bk W g6 126 cs.toArray
 gw:w.grownBy W (some b)
section
variable {b:Nat} {t:TypeId} {rest:List Value} {L:List aA} {LA:Option Addr} {Lc gr g6:Nat} {cs:List Value} {w W W':World} {x y:PS}
theorem GR.old (h:GR b t rest L LA Lc gr g6 cs w x W) (hb:Below W.heap.size W W'):GR b t rest L LA Lc gr g6 cs w x W':=
 ⟨h.st.old hb,h.kr.old hb,h.k6.old hb,h.gw.trans (below_grown hb (some b))⟩
theorem GR.steps (h:GR b t rest L LA Lc gr g6 cs w x W) (hbr:b<gr) (hb5:b<g6) (hs:Steps b t rest L LA Lc y W W'):GR b t rest L LA Lc gr g6 cs w y W':=
 ⟨hs.st,h.kr.grown hs.grown (aC (by omega)),h.k6.grown hs.grown (aC (by omega)),h.gw.trans hs.grown⟩
theorem GR.put (h:GR b t rest L LA Lc gr g6 cs w x W) (hbg:b<g6) (hw:w.heap.size<=g6) (hr:gr<g6) (i:Nat) (v:Value):GR b t rest L LA Lc gr g6 (cs.set i v) w x (W.setCell ⟨g6,i,none⟩ v):=
 ⟨h.st.far hbg v,h.kr.far (p:=⟨g6,i,none⟩) (by show gr≠g6;omega) v,by simpa using h.k6.put i v,ui h.gw hw⟩
theorem GR.next (h:GR b t rest L LA Lc gr g6 cs w x W) (hbr:b<gr) (hb5:b<g6):GR b t rest L LA Lc gr g6 cs w (aO x) (W.setCell ⟨b,1,none⟩ (.int .i64 ((x.i:Int)+1))):=
 h.steps hbr hb5 (step_next b t rest L LA Lc x W h.st)
end
theorem bn.Js {L:List aA} {s:PS} (he:dL L) (h:gm L s):bn L s (dD L s).2:=by
 unfold dD
 split
 ·exact bn.fail _ h
 ·rename_i hk
  exact bn.next he h (by intro h0;apply hk;right;rw[h0];decide)
def VA (b tb tq i Bq:Nat) (L:List aA) (Lc:Nat) (T:aA):List Spec:=[.is (.pointer (some ⟨b,0,none⟩)),
 .is (.pointer (some ⟨b,0,none⟩)),
 .is (.pointer (some ⟨b,0,none⟩)),
 .is (.pointer (some ⟨b,0,none⟩)),
 .is (.slice (some ⟨tb,tq,none⟩) L.length Lc),
 .is (.pointer (some ⟨b,0,none⟩)),
 .is (.pointer (some ⟨b,0,none⟩)),
 .is (.pointer (some ⟨b,0,none⟩)),
 .is (.pointer (some ⟨b,1,none⟩)),
 .is (.int .i64 (i:Nat)),
 .is (.pointer (some ⟨tb,tq+i*5,none⟩)),
 .is (.agg #[.int .i64 T.kind,.string (bytes T.text),.int .i64 T.n,.int .i64 T.scale,.int .i64 T.pos]),
 .st (fun v w=>∃g,v=.pointer (some ⟨g,0,none⟩)/\Bq<=g/\Bk w g 102 #[.int .i64 0,.string ⟨#[]⟩,.int .i64 0,.int .i64 0,.int .i64 0]) (fun _ _ _ hb ⟨g,h1,h0,h2⟩=>⟨g,h1,h0,h2.old hb⟩)]
section
variable (b:Nat) (t:TypeId) (rest:List Value) (L:List aA) (LA:Option Addr) (Lc:Nat) (s:PS) (w:World)
theorem NS (n : Nat) (h : di b t rest L LA Lc s w) (he : dL L) (hi : gm L s) (hL : L.length ≤ 4001) (hn : n ≤ 8) :
  Calls Try.prog 53 #[.pointer (some ⟨b,0,none⟩),.int .i64 n] w fun r w'=>r=.returned (.agg (jg L n s).1.cells.toArray)/\Steps b t rest L LA Lc (jg L n s).2 w w':=by
 have hsi:=hi.lt;obtain⟨tb,tq,hA,htb,hc⟩:=h.rd.elem (n:=5) ug (by omega) hi.lt;have r0:w.cell? ⟨tb,tq+s.i*5,none⟩=some (.int .i64 L[s.i].kind):=hc 0 _ rfl;have r1:w.cell? ⟨tb,tq+s.i*5+1,none⟩=some (.string (bytes L[s.i].text)):=hc 1 _ rfl;have r2:w.cell? ⟨tb,tq+s.i*5+2,none⟩=some (.int .i64 L[s.i].n):=hc 2 _ rfl;have r3:w.cell? ⟨tb,tq+s.i*5+3,none⟩=some (.int .i64 L[s.i].scale):=hc 3 _ rfl;have r4:w.cell? ⟨tb,tq+s.i*5+4,none⟩=some (.int .i64 L[s.i].pos):=hc 4 _ rfl;have c0:=h.c0;have c1:=h.c1;rw[hA]at c0;have hbl:=h.bk.lt;have HS:=zH h;obtain⟨RES,hres⟩:∃R,jg L n s=R:=⟨_,rfl⟩
 rw[hres];have aK:=zH hres;clear hc hres
 go_enter Try.func53,Try.ntmps53
 go_upto_region 1 with fail
 have hbW:Below w.heap.size w (w.alloc (.cells #[.int .i64 0,.string ⟨#[]⟩,.string ⟨#[]⟩,.int .i64 0] 126)):=zR.alloc zL _;have kr:Bk (w.alloc (.cells #[.int .i64 0,.string ⟨#[]⟩,.string ⟨#[]⟩,.int .i64 0] 126)) w.heap.size 126 #[.int .i64 0,.string ⟨#[]⟩,.string ⟨#[]⟩,.int .i64 0]:=Bk.new w 126 _;have hlt1:b<w.heap.size:=hbl;have hlt2:tb<w.heap.size:=by omega
 replace c0:=(aU hbW b 0 hlt1).trans c0;replace c1:=(aU hbW b 1 hlt1).trans c1;replace r0:=(aU hbW tb _ hlt2).trans r0;replace r1:=(aU hbW tb _ hlt2).trans r1;replace r2:=(aU hbW tb _ hlt2).trans r2;replace r3:=(aU hbW tb _ hlt2).trans r3;replace r4:=(aU hbW tb _ hlt2).trans r4;have lh:=zH (HS.out.old hbW);have KRW:=zH kr;have GW:=zH (below_grown hbW (some b));have hWz:=kr.lt;have HT:Hid (bf L s=L[s.i]):=zH (qE hsi);obtain⟨i,hii⟩:∃i,s.i=i:=⟨_,rfl⟩
 have HII:=zH hii;generalize L[s.i]=T at *;rw[hii]at c1 r0 r1 r2 r3 r4 hsi;clear h hA HS hii;generalize w.alloc (.cells #[.int .i64 0,.string ⟨#[]⟩,.string ⟨#[]⟩,.int .i64 0] 126)=W at *;refine cZ 13 (fun k=>k==12) (by kernel_rfl) (fun qk=>(VA b tb tq i W.heap.size L Lc T).getD qk .any) (by kernel_rfl) ?_ ?_
 ·refine aj.cons rfl [] [0] rfl rfl (by kernel_rfl) (by kernel_rfl) (fun qK qa wr hB qO qF hK=>?_) ?_
  ·have e0:qa.tmps[0]? =some (.pointer (some ⟨b,0,none⟩)):=qO.1.trans rfl;clear qO qF;go_simp;exact hK _ _ zR rfl
  refine aj.cons rfl [0] [] rfl rfl (by kernel_rfl) (by kernel_rfl) (fun qK qa wr hB qO qF hK=>?_) ?_
  ·have e7:=aH qF.1 rfl rfl;clear qO qF;go_simp;exact hK _ _ zR rfl
  refine aj.cons rfl [1] [] rfl rfl (by kernel_rfl) (by kernel_rfl) (fun qK qa wr hB qO qF hK=>?_) ?_
  ·have e8:=aH qF.1 rfl rfl;clear qO qF;go_simp;exact hK _ _ zR rfl
  refine aj.cons rfl [2] [] rfl rfl (by kernel_rfl) (by kernel_rfl) (fun qK qa wr hB qO qF hK=>?_) ?_
  ·have e9:=aH qF.1 rfl rfl;clear qO qF;go_simp;exact hK _ _ zR rfl
  refine aj.cons rfl [3] [] rfl rfl (by kernel_rfl) (by kernel_rfl) (fun qK qa wr hB qO qF hK=>?_) ?_
  ·have e10:=aH qF.1 rfl rfl;clear qO qF;have hc0:=zE hB c0;go_simp;exact hK _ _ zR rfl
  refine aj.cons rfl [] [0] rfl rfl (by kernel_rfl) (by kernel_rfl) (fun qK qa wr hB qO qF hK=>?_) ?_
  ·have e0:qa.tmps[0]? =some (.pointer (some ⟨b,0,none⟩)):=qO.1.trans rfl;clear qO qF;go_simp;exact hK _ _ zR rfl
  refine aj.cons rfl [5] [] rfl rfl (by kernel_rfl) (by kernel_rfl) (fun qK qa wr hB qO qF hK=>?_) ?_
  ·have e12:=aH qF.1 rfl rfl;clear qO qF;go_simp;exact hK _ _ zR rfl
  refine aj.cons rfl [6] [] rfl rfl (by kernel_rfl) (by kernel_rfl) (fun qK qa wr hB qO qF hK=>?_) ?_
  ·have e13:=aH qF.1 rfl rfl;clear qO qF;go_simp;exact hK _ _ zR rfl
  refine aj.cons rfl [7] [] rfl rfl (by kernel_rfl) (by kernel_rfl) (fun qK qa wr hB qO qF hK=>?_) ?_
  ·have e14:=aH qF.1 rfl rfl;clear qO qF;go_simp;exact hK _ _ zR rfl
  refine aj.cons rfl [8] [] rfl rfl (by kernel_rfl) (by kernel_rfl) (fun qK qa wr hB qO qF hK=>?_) ?_
  ·have e15:=aH qF.1 rfl rfl;clear qO qF;have hc1:=zE hB c1;go_simp;exact hK _ _ zR rfl
  refine aj.cons rfl [4,9] [] rfl rfl (by kernel_rfl) (by kernel_rfl) (fun qK qa wr hB qO qF hK=>?_) ?_
  ·have e11:=aH qF.1 rfl rfl;have e16:=aH qF.2.1 rfl rfl;clear qO qF;go_simp;exact hK _ _ zR rfl
  refine aj.cons rfl [10] [] rfl rfl (by kernel_rfl) (by kernel_rfl) (fun qK qa wr hB qO qF hK=>?_) ?_
  ·have e17:=aH qF.1 rfl rfl;clear qO qF;have hr0:=zE hB r0;have hr1:=zE hB r1;have hr2:=zE hB r2;have hr3:=zE hB r3;have hr4:=zE hB r4;go_simp;exact hK _ _ zR rfl
  refine aj.fresh rfl [] [] rfl rfl (by kernel_rfl) (by kernel_rfl) (fun qK qa wr hB qO qF hK=>?_) ?_
  ·clear qO qF;go_simp;exact hK _ _ (zR.alloc zL _) ⟨_,rfl,hB.size,Bk.new _ _ _⟩ ⟨_,rfl,by simp,by simp⟩
  exact aj.nil
 intro vals wr hl hB hR hS
 match vals,hl with
 |[z7,z8,z9,z10,z11,z12,z13,z14,z15,YX,z17,z18,z5],_=>
 have r11:z18=.agg #[.int .i64 T.kind,.string (bytes T.text),.int .i64 T.n,.int .i64 T.scale,.int .i64 T.pos]:=hR 11 _ rfl;subst r11;obtain⟨g5,r12,n5,k5⟩:=(show∃g,z5=.pointer (some ⟨g,0,none⟩)/\W.heap.size<=g/\Bk wr g 102 #[.int .i64 0,.string ⟨#[]⟩,.int .i64 0,.int .i64 0,.int .i64 0]from hR 12 _ rfl)
 subst r12;clear hS;clear hR;simp only[List.take_succ_cons,List.take_zero,List.drop_succ_cons,List.drop_zero,List.toList_toArray,List.cons_append,List.nil_append,aN,Act.put,List.setIfInBounds_toArray,List.set_cons_zero,List.set_cons_succ];go_upto_region 2 with(first|(refine ae ed rfl _ _ rfl rfl [.int .i64 T.kind,.string (bytes T.text),.int .i64 T.n,.int .i64 T.scale,.int .i64 T.pos] rfl k5 rfl rfl rfl ?_;intro wA pA;go_frame))
 have V0:TU b t rest L LA Lc w.heap.size g5 T w s wA:=⟨(lh.out.old hB).sG pA (by omega),pA.Eu (KRW.out.old hB) (by omega),pA.bk,eu (GW.out.trans (below_grown hB (some b))) pA (by omega)⟩
 have lJ:=zH V0;have hz5:w.heap.size<g5:=by omega
 have e0:wA.cell? ⟨g5,0,none⟩=some (.int .i64 T.kind):=V0.k5.cell 0;have e4:wA.cell? ⟨g5,4,none⟩=some (.int .i64 T.pos):=V0.k5.cell 4
 have HIS:Hid (∀(x:PS) (W:World) (S:ByteArray) (v:Str),S.toList=v->gm L x->di b t rest L LA Lc x W->Calls Try.prog 39 #[.pointer (some ⟨b,0,none⟩),.string S] W fun r w'=>r=.returned (.bool (eQ L x v))/\Below W.heap.size W w'):=zH fun x W S v hv ho h=>by
  have:=kL b t rest L LA Lc x W S h ho.lt hL
  rwa [hv]at this
 have TV:(⟨#[33]⟩:ByteArray).toList=[33]:=by rw[ByteArray.toList_eq]
 clear V0 pA k5 hB kr n5 c0 c1 r0 r1 r2 r3 r4 lh KRW GW;obtain⟨stop,hstop⟩:∃z,(decide (n=8)&&(decide (T.kind=2)||eQ L s [33]))=z:=⟨_,rfl⟩
 go_cut[31] (fun v wx=>v=.bool stop/\Hid (TU b t rest L LA Lc w.heap.size g5 T w s wx))
 case first=>
  as_aux_lemma=>
  by_cases h8:n=8
  case neg=>
   have h8I:((n:Int)==8)=false:=by rw[beq_eq_false_iff_ne];omega
   have hst:stop=false:=by rw[<-hstop];simp[h8]
   subst hst;clear hstop;go_wp2_with fail
   go_meet
   exact⟨rfl,lJ⟩
  case pos=>
   have h8I:((n:Int)==8)=true:=by rw[beq_iff_eq];omega
   by_cases hk:T.kind=2
   case pos=>
    have J8:((T.kind:Int)==2)=true:=by rw[beq_iff_eq];omega
    have hst:stop=true:=by rw[<-hstop];simp[h8,hk]
    subst hst;clear hstop h8 hk;go_wp2_with fail
    go_meet
    exact⟨rfl,lJ⟩
   case neg=>
    have J8:((T.kind:Int)==2)=false:=by rw[beq_eq_false_iff_ne];omega
    have hst:eQ L s [33]=stop:=by rw[<-hstop];simp[h8,hk]
    have HST:=zH hst;clear hstop hst h8 hk;go_wp2_with fail
    refine(HIS.out s _ _ _ TV hi lJ.out.st).mono ?_;rintro r w2 ⟨rfl,hb2⟩;have iM:=zH (lJ.out.old hb2);rw[HST.out];go_wp2_with fail
    go_meet
    exact⟨rfl,iM⟩
 case rest=>
  obtain⟨rfl,HV⟩:=hcut;cases stop
  case true=>
   as_aux_lemma=>
   have hP:=vT (L:=L) (s:=s) (n:=n) (by rw[HT.out];exact hstop);have hP:=aK.out.symm.trans hP;subst hP;have jG:Hid (∀W:World,di b t rest L LA Lc s W->Calls Try.prog 42 #[.pointer (some ⟨b,0,none⟩),.int .i64 2] W fun r w'=>r=.returned (.tuple #[])/\Steps b t rest L LA Lc (aW L 2 s) W w'):=zH fun W h=>ku b t rest L LA Lc s W 2 h hi.lt hL
   clear hstop aK;go_wp2_with fail
   refine(jG.out _ HV.out.st).mono ?_;rintro r w2 ⟨rfl,hs2⟩;have V2:=HV.out.steps hbl (by omega) hs2;obtain⟨y0,y1,y2,y3⟩:=zc4 V2.kr;have BN:=zH V2.kr;have HST:=zH V2.st;have HGW:=zH V2.gw;clear hs2 jG V2 HV;go_wp2_with (first|(refine ae vU rfl _ _ rfl rfl [.int .i64 0,.string ⟨#[]⟩,.string ⟨#[]⟩,.int .i64 0] rfl BN.out rfl rfl rfl ?_;intro w9 p9))
   obtain⟨u0,u1,u2,u3⟩:=zc4 p9.bk;refine bodyPost_ret (v:=.agg #[.int .i64 0,.string ⟨#[]⟩,.string ⟨#[]⟩,.int .i64 0]) (by simp[results,Try.results53,go_sem,u0,u1,u2,u3]) rfl ?_;exact⟨rfl,HST.out.sG p9 (by omega),eu HGW.out p9 (by omega)⟩
  case false=>
   as_aux_lemma=>
   have hP:=Dt (L:=L) (s:=s) (n:=n) (by rw[HT.out];exact hstop);have hP:=aK.out.symm.trans hP;clear aK hstop;have e4:=HV.out.k5.cell 4;obtain⟨neg,hneg⟩:∃z,eQ L s [33]=z:=⟨_,rfl⟩
   rw[hneg,HT.out]at hP;simp only[]at hP;have HP:=zH hP;have YZ:=zH hneg;clear hneg hP;have HN7:Hid (∀(x:PS) (W:World),gm L x->di b t rest L LA Lc x W->Calls Try.prog 58 #[.pointer (some ⟨b,0,none⟩)] W fun r w'=>r=.returned (.string (bytes (dD L x).1))/\Steps b t rest L LA Lc (dD L x).2 W w'):=zH fun x W ho h=>BQ b t rest L LA Lc x W h ho.lt hL
   have hq6:=HV.out.kr.lt;have hwsz:=HV.out.gw.size;go_upto_region 6 with fail
   have J0:GR b t rest L LA Lc w.heap.size wc.heap.size [.int .i64 1,.string ⟨#[]⟩,.string ⟨#[]⟩,.int .i64 T.pos] w s (wc.alloc (.cells #[.int .i64 1,.string ⟨#[]⟩,.string ⟨#[]⟩,.int .i64 T.pos] 126)):=
    have hb1:Below wc.heap.size wc (wc.alloc (.cells #[.int .i64 1,.string ⟨#[]⟩,.string ⟨#[]⟩,.int .i64 T.pos] 126)):=zR.alloc zL _
    ⟨HV.out.st.old hb1,HV.out.kr.old hb1,Bk.new wc _ _,HV.out.gw.trans (below_grown hb1 _)⟩
   have HJ0:=zH J0;have hbg:b<wc.heap.size:=by omega
   have QY:w.heap.size<=wc.heap.size:=by omega
   clear J0 HV e4;generalize wc.alloc (.cells #[.int .i64 1,.string ⟨#[]⟩,.string ⟨#[]⟩,.int .i64 T.pos] 126)=W1 at *;generalize wc.heap.size=g6 at *;have hbr:b<w.heap.size:=hbl;go_upto_if 43 with(first|(refine(HIS.out s _ _ _ TV hi HJ0.out.st).mono ?_;rintro r w2 ⟨rfl,hb2⟩;rw[YZ.out];have HJ1:=zH (HJ0.out.old hb2);clear HJ0 hb2))
   obtain⟨fo,hfo⟩:∃z:Nat,(if neg=true then 3 else 1)=z:=⟨_,rfl⟩
   obtain⟨s1,hs1⟩:∃z,(if neg=true then aO s else s)=z:=⟨_,rfl⟩
   have ho1:gm L s1:=by
    rw[<-hs1];cases neg
    ·exact hi
    ·exact(bn.next he hi (bG YZ.out)).ok
   have rX:=HP.out;rw[hs1]at rX;have HP:=zH rX;clear rX
   go_cut[] (fun wx=>Hid (GR b t rest L LA Lc w.heap.size g6 [.int .i64 fo,.string ⟨#[]⟩,.string ⟨#[]⟩,.int .i64 T.pos] w s1 wx))
   case first=>
    as_aux_lemma=>
    cases neg
    case false=>
     simp only[Bool.false_eq_true,if_false]at hfo hs1;subst hfo;subst hs1;go_wp2_with fail
     go_meet
     exact HJ1
    case true=>
     simp only[if_true]at hfo hs1;subst hfo;subst hs1;have hJ:=HJ1.out;have hJ2:=hJ.put hbg QY hq6 0 (.int .i64 3);have d1:=hJ2.st.c1;have f1:=hJ2.st.fr 1;have f6:=hJ.k6.frozen 0;have c6:=hJ.k6.cell 0;have GU:=zH (hJ2.next hbr hbg);have hi1:s.i<=4001:=by have:=hi.lt;omega
     clear hJ hJ2 HJ1;go_wp2_with fail
     go_meet
     exact GU
   case rest=>
   have HJ:=hcut;clear hcut HJ1 hs1;have Dj:=HN7.out s1 wc ho1 HJ.out.st;have ho2:gm L (dD L s1).2:=(bn.Js he ho1).ok;obtain⟨ty,s2,h12⟩:∃a z,dD L s1=(a,z):=⟨_,_,rfl⟩
   have rX:=HP.out;clear HP;rw[h12]at Dj ho2 rX;simp only at Dj ho2 rX;have BR:=zH Dj;have HPH:=zH rX;clear Dj h12 rX;go_wp2_with fail
   refine BR.out.mono ?_;rintro r w2 ⟨rfl,hs2⟩;have J2:=HJ.out.steps hbr hbg hs2;have GU:=zH (J2.put hbg QY hq6 1 (.string (bytes ty)));have f6:=J2.k6.frozen 1;have c6:=J2.k6.cell 1;clear HJ BR hs2 J2;go_upto_region 10 with fail
   clear f6 c6;generalize w2.setCell ⟨g6,1,none⟩ (.string (bytes ty))=W3 at *;have rX:=HPH.out;clear HPH;obtain⟨plus,NT⟩:∃z,(decide (s2.err=0)&&(!neg&&eQ L s2 [43]))=z:=⟨_,rfl⟩
   rw[NT]at rX;have VB:(⟨#[43]⟩:ByteArray).toList=[43]:=by rw[ByteArray.toList_eq]
   have LZ:=zH NT;have HP:=zH rX;clear NT rX
   go_cut[73] (fun v wx=>v=.bool plus/\Hid (GR b t rest L LA Lc w.heap.size g6 [.int .i64 fo,.string (bytes ty),.string ⟨#[]⟩,.int .i64 T.pos] w s2 wx))
   case first=>
    as_aux_lemma=>
    have d3:=GU.out.st.c3
    by_cases h0:s2.err=0
    case neg=>
     have iQ:((s2.err:Int)==0)=false:=by rw[beq_eq_false_iff_ne];omega
     have hpl:plus=false:=by rw[<-LZ.out];simp[h0]
     subst hpl;clear h0;go_wp2_with fail
     go_meet
     exact⟨rfl,GU⟩
    case pos=>
     have iQ:((s2.err:Int)==0)=true:=by rw[beq_iff_eq];omega
     have c60:=GU.out.k6.cell 0;cases neg
     case true=>
      simp only[if_true]at hfo;subst hfo;have hpl:plus=false:=by rw[<-LZ.out];simp
      subst hpl;clear h0;go_wp2_with fail
      go_meet
      exact⟨rfl,GU⟩
     case false=>
      simp only[Bool.false_eq_true,if_false]at hfo;subst hfo;have hst:eQ L s2 [43]=plus:=by rw[<-LZ.out];simp[h0]
      have HST:=zH hst;clear hst h0;go_wp2_with fail
      refine(HIS.out s2 _ _ _ VB ho2 GU.out.st).mono ?_;rintro r w4 ⟨rfl,hb4⟩;have HJ4:=zH (GU.out.old hb4);rw[HST.out];clear GU d3 c60 hb4;go_wp2_with fail
      go_meet
      exact⟨rfl,HJ4⟩
   case rest=>
   obtain⟨rfl,HJ⟩:=hcut;clear GU;go_upto_if 73 with fail
   obtain⟨fo2,NU⟩:∃z:Nat,(if neg=true then 3 else if plus=true then 2 else 1)=z:=⟨_,rfl⟩
   obtain⟨s3,hs3⟩:∃z,(if plus=true then aO s2 else s2)=z:=⟨_,rfl⟩
   have rX:=HP.out;clear HP;rw[NU,hs3]at rX;have HP:=zH rX;clear rX
   have hpn:plus=true->neg=false/\eQ L s2 [43]=true:=by
    intro h;have:=LZ.out;rw[h]at this;cases neg<;>simp at this
    exact⟨rfl,this.2⟩
   have ho3:gm L s3:=by
    rw[<-hs3];cases plus
    ·exact ho2
    ·exact(bn.next he ho2 (bG (hpn rfl).2)).ok
   go_cut[] (fun wx=>Hid (GR b t rest L LA Lc w.heap.size g6 [.int .i64 fo2,.string (bytes ty),.string ⟨#[]⟩,.int .i64 T.pos] w s3 wx))
   case first=>
    as_aux_lemma=>
    cases plus
    case false=>
     simp only[Bool.false_eq_true,if_false]at NU hs3;obtain rfl:fo=fo2:=hfo.symm.trans NU;subst hs3;go_wp2_with fail
     go_meet
     exact HJ
    case true=>
     have hn:=(hpn rfl).1;subst hn;simp only[Bool.false_eq_true,if_false,if_true]at NU hs3 hfo;subst NU;subst hs3;subst hfo;have hJ:=HJ.out;have hJ2:=hJ.put hbg QY hq6 0 (.int .i64 2);have d1:=hJ2.st.c1;have f1:=hJ2.st.fr 1;have f6:=hJ.k6.frozen 0;have c6:=hJ.k6.cell 0;have GU:=zH (hJ2.next hbr hbg);have hi1:s2.i<=4001:=by have:=ho2.lt;omega
     clear hJ hJ2 HJ hpn;go_wp2_with fail
     go_meet
     exact GU
   case rest=>
   have GU:=hcut;clear hcut HJ hs3 hpn ho2;have Dj:=HN7.out s3 wc ho3 GU.out.st;obtain⟨nm,s4,h34⟩:∃a z,dD L s3=(a,z):=⟨_,_,rfl⟩
   have rX:=HP.out;clear HP;rw[h34]at Dj rX;simp only at Dj rX;have HP:=zH rX;clear rX;have BR:=zH Dj;clear Dj h34;go_wp2_with fail
   refine BR.out.mono ?_;rintro r w4 ⟨rfl,hs4⟩;have J4:=GU.out.steps hbr hbg hs4;have J5:=J4.put hbg QY hq6 2 (.string (bytes nm));have f6:=J4.k6.frozen 2;have c6:=J4.k6.cell 2;have HJ5:=zH J5;clear J5 GU BR hs4 J4;go_upto_region 14 with fail
   clear f6 c6;generalize w4.setCell ⟨g6,2,none⟩ (.string (bytes nm))=W5 at *;have J5:=HJ5.out;obtain⟨y0,y1,y2,y3⟩:=zc4 J5.k6;have BN:=zH J5.kr;have HST:=zH J5.st;have HGW:=zH J5.gw;clear J5 HJ5;go_wp2_with (first|(refine ae vU rfl _ _ rfl rfl [.int .i64 fo2,.string (bytes ty),.string (bytes nm),.int .i64 T.pos] rfl BN.out rfl rfl rfl ?_;intro w9 p9))
   obtain⟨u0,u1,u2,u3⟩:=zc4 p9.bk;refine bodyPost_ret (v:=.agg #[.int .i64 fo2,.string (bytes ty),.string (bytes nm),.int .i64 T.pos]) (by simp[results,Try.results53,go_sem,u0,u1,u2,u3]) rfl ?_;have hP:=HP.out;subst hP;exact⟨rfl,HST.out.sG p9 (by omega),eu HGW.out p9 (by omega)⟩
end
end Go.Proofs.Ytbjnhllkdilpfaa
