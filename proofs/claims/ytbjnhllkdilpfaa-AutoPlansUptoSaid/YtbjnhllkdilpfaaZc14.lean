/- Part 14 of the proof. No conditions. -/
import Derived.Test.YtbjnhllkdilpfaaZc13
namespace Go.Proofs.Ytbjnhllkdilpfaa
open Go.RowKit
set_option maxRecDepth 100000
set_option maxHeartbeats 16000000
set_option linter.unusedVariables false
set_option linter.unusedSimpArgs false
def qP (P:Nat->Prop) (w:World) (B:Nat) (e:ax) (v:Value) (W:World):Prop:=
 ∃css:List (List Value),W.ownsRow B 118 7 v css.length css.flatten/\jq P w (jI e) css
theorem qP.old {P:Nat->Prop} {w W W':World} {B:Nat} {e:ax} {v:Value} (h:qP P w B e v W) (hb:Below W.heap.size W W'):qP P w B e v W':=by
 obtain⟨css,h1,h2⟩:=h;exact⟨css,aQ h1 hb,h2⟩
theorem QT {P : Nat → Prop} (x y : ax) (g p : Nat) (x0 x1 x2 x3 x4 x5 x6 y0 y1 y2 y3 y4 y5 y6 : Value) (w : World) (hP : ∀ q, P q → q < w.heap.size) (hk : Bk w g 118 #[x0, x1, x2, x3, x4, x5, x6, y0, y1, y2, y3, y4, y5, y6])
  (hx:∀W,Below w.heap.size w W->Calls Try.prog 56 #[.agg #[x0,x1,x2,x3,x4,x5,x6]] W (MI P x W)) (hy:∀W,Below w.heap.size w W->Calls Try.prog 56 #[.agg #[y0,y1,y2,y3,y4,y5,y6]] W (MI P y W)) (hs:aB x+aB y<=1000000):
  Calls Try.prog 56 #[.agg #[.int .i64 13,.slice (some ⟨g,0,none⟩) 2 2,.int .i64 0,.int .i64 0,.string ⟨#[]⟩,.string ⟨#[]⟩,.int .i64 p]] w (MI P (.bin 13 x y p) w):=by
 have HX:Hid (∀W,Below w.heap.size w W->Calls Try.prog 56 #[.agg #[x0,x1,x2,x3,x4,x5,x6]] W fun r W'=>∃v,r=.returned v/\qP P w w.heap.size x v W'/\Below W.heap.size W W'):=zH fun W hW=>(hx W hW).mono (by
  rintro r W' ⟨v,css,rfl,h1,h2,h3⟩
  exact⟨v,rfl,⟨css,di h1 hW.size,h2.keep fun q hq _=>⟨hq,(hW.block q (hP q hq)).symm⟩⟩,h3⟩)
 have HY:Hid (∀W,Below w.heap.size w W->Calls Try.prog 56 #[.agg #[y0,y1,y2,y3,y4,y5,y6]] W fun r W'=>∃v,r=.returned v/\qP P w w.heap.size y v W'/\Below W.heap.size W W'):=zH fun W hW=>(hy W hW).mono (by
  rintro r W' ⟨v,css,rfl,h1,h2,h3⟩
  exact⟨v,rfl,⟨css,di h1 hW.size,h2.keep fun q hq _=>⟨hq,(hW.block q (hP q hq)).symm⟩⟩,h3⟩)
 obtain⟨iT,hT,hT0,hT1,hT2⟩:=info_parts QO;have hgw:=hk.lt;have hnx:=oV x;have hny:=oV y
 go_enter Try.func56,Try.ntmps56
 have kb:=Bk.new w 118 #[.int .i64 13,.slice (some ⟨g,0,none⟩) 2 2,.int .i64 0,.int .i64 0,.string ⟨#[]⟩,.string ⟨#[]⟩,.int .i64 p];have hb0:Below w.heap.size w (w.alloc (.cells #[.int .i64 13,.slice (some ⟨g,0,none⟩) 2 2,.int .i64 0,.int .i64 0,.string ⟨#[]⟩,.string ⟨#[]⟩,.int .i64 p] 118)):=zR.alloc zL _;have b0:(w.alloc (.cells #[.int .i64 13,.slice (some ⟨g,0,none⟩) 2 2,.int .i64 0,.int .i64 0,.string ⟨#[]⟩,.string ⟨#[]⟩,.int .i64 p] 118)).cell? ⟨w.heap.size,0,none⟩=some (.int .i64 13):=kb.cell 0;have b1:(w.alloc (.cells #[.int .i64 13,.slice (some ⟨g,0,none⟩) 2 2,.int .i64 0,.int .i64 0,.string ⟨#[]⟩,.string ⟨#[]⟩,.int .i64 p] 118)).cell? ⟨w.heap.size,1,none⟩=some (.slice (some ⟨g,0,none⟩) 2 2):=kb.cell 1;have hk0:=hk.old hb0;have q0:(w.alloc (.cells #[.int .i64 13,.slice (some ⟨g,0,none⟩) 2 2,.int .i64 0,.int .i64 0,.string ⟨#[]⟩,.string ⟨#[]⟩,.int .i64 p] 118)).cell? ⟨g,0,none⟩=some x0:=hk0.cell 0;have q1:(w.alloc (.cells #[.int .i64 13,.slice (some ⟨g,0,none⟩) 2 2,.int .i64 0,.int .i64 0,.string ⟨#[]⟩,.string ⟨#[]⟩,.int .i64 p] 118)).cell? ⟨g,1,none⟩=some x1:=hk0.cell 1;have q2:(w.alloc (.cells #[.int .i64 13,.slice (some ⟨g,0,none⟩) 2 2,.int .i64 0,.int .i64 0,.string ⟨#[]⟩,.string ⟨#[]⟩,.int .i64 p] 118)).cell? ⟨g,2,none⟩=some x2:=hk0.cell 2;have q3:(w.alloc (.cells #[.int .i64 13,.slice (some ⟨g,0,none⟩) 2 2,.int .i64 0,.int .i64 0,.string ⟨#[]⟩,.string ⟨#[]⟩,.int .i64 p] 118)).cell? ⟨g,3,none⟩=some x3:=hk0.cell 3
 have q4:(w.alloc (.cells #[.int .i64 13,.slice (some ⟨g,0,none⟩) 2 2,.int .i64 0,.int .i64 0,.string ⟨#[]⟩,.string ⟨#[]⟩,.int .i64 p] 118)).cell? ⟨g,4,none⟩=some x4:=hk0.cell 4;have q5:(w.alloc (.cells #[.int .i64 13,.slice (some ⟨g,0,none⟩) 2 2,.int .i64 0,.int .i64 0,.string ⟨#[]⟩,.string ⟨#[]⟩,.int .i64 p] 118)).cell? ⟨g,5,none⟩=some x5:=hk0.cell 5;have q6:(w.alloc (.cells #[.int .i64 13,.slice (some ⟨g,0,none⟩) 2 2,.int .i64 0,.int .i64 0,.string ⟨#[]⟩,.string ⟨#[]⟩,.int .i64 p] 118)).cell? ⟨g,6,none⟩=some x6:=hk0.cell 6;have q7:(w.alloc (.cells #[.int .i64 13,.slice (some ⟨g,0,none⟩) 2 2,.int .i64 0,.int .i64 0,.string ⟨#[]⟩,.string ⟨#[]⟩,.int .i64 p] 118)).cell? ⟨g,0+7,none⟩=some y0:=hk0.cell 7;have q8:(w.alloc (.cells #[.int .i64 13,.slice (some ⟨g,0,none⟩) 2 2,.int .i64 0,.int .i64 0,.string ⟨#[]⟩,.string ⟨#[]⟩,.int .i64 p] 118)).cell? ⟨g,0+7+1,none⟩=some y1:=hk0.cell 8;have q9:(w.alloc (.cells #[.int .i64 13,.slice (some ⟨g,0,none⟩) 2 2,.int .i64 0,.int .i64 0,.string ⟨#[]⟩,.string ⟨#[]⟩,.int .i64 p] 118)).cell? ⟨g,0+7+2,none⟩=some y2:=hk0.cell 9;have q10:(w.alloc (.cells #[.int .i64 13,.slice (some ⟨g,0,none⟩) 2 2,.int .i64 0,.int .i64 0,.string ⟨#[]⟩,.string ⟨#[]⟩,.int .i64 p] 118)).cell? ⟨g,0+7+3,none⟩=some y3:=hk0.cell 10;have q11:(w.alloc (.cells #[.int .i64 13,.slice (some ⟨g,0,none⟩) 2 2,.int .i64 0,.int .i64 0,.string ⟨#[]⟩,.string ⟨#[]⟩,.int .i64 p] 118)).cell? ⟨g,0+7+4,none⟩=some y4:=hk0.cell 11
 have q12:(w.alloc (.cells #[.int .i64 13,.slice (some ⟨g,0,none⟩) 2 2,.int .i64 0,.int .i64 0,.string ⟨#[]⟩,.string ⟨#[]⟩,.int .i64 p] 118)).cell? ⟨g,0+7+5,none⟩=some y5:=hk0.cell 12;have q13:(w.alloc (.cells #[.int .i64 13,.slice (some ⟨g,0,none⟩) 2 2,.int .i64 0,.int .i64 0,.string ⟨#[]⟩,.string ⟨#[]⟩,.int .i64 p] 118)).cell? ⟨g,0+7+6,none⟩=some y6:=hk0.cell 13;go_upto_region 1 with fail
 clear hx hy hk hk0 kb;generalize w.alloc (.cells #[.int .i64 13,.slice (some ⟨g,0,none⟩) 2 2,.int .i64 0,.int .i64 0,.string ⟨#[]⟩,.string ⟨#[]⟩,.int .i64 p] 118)=w0 at *;have hbx:w.heap.size<w0.heap.size:=World.block_lt_of_cell? _ _ b0;go_upto_region 3 with fail
 generalize hbxn:w.heap.size=bx at *;have hbs:bx<=w0.heap.size:=by omega
 refine wx (fun k => false) [.is (.pointer (some ⟨bx, 1, none⟩)),
   .is (.slice (some ⟨g,0,none⟩) 2 2),
   .is (.pointer (some ⟨g,0,none⟩)),
   .is (.agg #[x0,x1,x2,x3,x4,x5,x6]),
   .st (qP P w bx x) (fun _ _ _ hb h=>qP.old h hb),
   .is (.pointer (some ⟨bx,1,none⟩)),
   .is (.slice (some ⟨g,0,none⟩) 2 2),
   .is (.pointer (some ⟨g,0+7,none⟩)),
   .is (.agg #[y0,y1,y2,y3,y4,y5,y6]),
   .st (qP P w bx y) (fun _ _ _ hb h=>qP.old h hb)] [3,4,8,9] (by kernel_rfl) (by kernel_rfl) (by kernel_rfl)
   (fun C=>.c (px C rfl (fun _ _=>rfl)) <|
   .c (px C rfl (fun _ h=>bW (XW (bc h b1)))) <|
   .c (px C rfl (fun _ _=>rfl)) <|
   .c (pz [2] [] (by kernel_rfl) fun qK qa wr hB qO qF hK=>?_) <|
   .c (pz [3] [] (by kernel_rfl) fun qK qa wr hB qO qF hK=>?_) <|
   .c (px C rfl (fun _ _=>rfl)) <|
   .c (px C rfl (fun _ h=>bW (XW (bc h b1)))) <|
   .c (px C rfl (fun _ _=>rfl)) <|
   .c (pz [7] [] (by kernel_rfl) fun qK qa wr hB qO qF hK=>?_) <|
   .c (pz [8] [] (by kernel_rfl) fun qK qa wr hB qO qF hK=>?_) <| .nil) ?_
 ·have e10:=ay qF.1 rfl rfl;clear qO qF;have hq0:=zE hB q0;have hq1:=zE hB q1;have hq2:=zE hB q2;have hq3:=zE hB q3;have hq4:=zE hB q4;have hq5:=zE hB q5;have hq6:=zE hB q6;go_simp;exact hK _ _ zR rfl
 ·have e11:=ay qF.1 rfl rfl;clear qO qF;go_simp
  go_at_call 56
  refine(HX.out wr (hb0.trans (hB.mono hbs))).mono ?_;rintro r w9 ⟨v9,rfl,uC,dO⟩;exact hK _ _ dO uC
 ·have e15:=ay qF.1 rfl rfl;clear qO qF;have hq7:=zE hB q7;have hq8:=zE hB q8;have hq9:=zE hB q9;have hq10:=zE hB q10;have hq11:=zE hB q11;have hq12:=zE hB q12;have hq13:=zE hB q13;go_simp;exact hK _ _ zR rfl
 ·have e16:=ay qF.1 rfl rfl;clear qO qF;go_simp
  go_at_call 56
  refine(HY.out wr (hb0.trans (hB.mono hbs))).mono ?_;rintro r w9 ⟨v9,rfl,uC,dO⟩;exact hK _ _ dO uC
 intro qx wr hB hR hS;have r4:(qP P w bx x) (qx 4) wr:=hR 4 rfl rfl;have r9:(qP P w bx y) (qx 9) wr:=hR 9 rfl rfl;clear hR hS;simp only[bJ,List.take_succ_cons,List.take_zero,List.drop_succ_cons,List.drop_zero,List.toList_toArray,List.length_cons,List.length_nil,Act.put,List.setIfInBounds_toArray,List.set_cons_zero,List.set_cons_succ];generalize qx 4=z12 at r4⊢;generalize qx 9=z17 at r9⊢;obtain⟨css,Yw,hc12⟩:=r4;obtain⟨dss,Yx,hc17⟩:=r9;obtain⟨hl1,hl2,hl3⟩:=hc12.len;obtain⟨hm1,hm2,Yy⟩:=hc17.len;obtain⟨Ax,cx,rfl,_⟩:=bg Yw;obtain⟨Ay,cy,rfl,_⟩:=bg Yx;have hbw:=hb0.trans (hB.mono hbs);have hr17:=dG Yx;have HC:=zH (jq.app hc12 hc17);have yH:=zH hbw;have HM:=zH Yy;clear hc12 hc17 hl3 Yy Yx b0 b1 q0 q1 q2 q3 q4 q5 q6 q7 q8 q9 q10 q11 q12 q13 HX HY;go_wp2_with (at_builtin;refine aH rfl _ _ 78 rfl bx 118 iT _ 7 88 Try.underlying78 hT hT0 hT1 hT2 rfl (by decide) (.slice Ax css.length cx) css.length _ rfl Yw wr.heap.size Ay dss.length cy dss.flatten rfl hr17 hm2 HM.out (by unfold maxLen;omega) (by omega) (by have:=hbw.size;omega) ?_;intro A4 c4 w4 ho4 hg4 hat;refine Hid.out ?_)
 refine zH ?_;go_wp2
 go_ret
 subst hbxn;have hfl:jI (.bin 13 x y p)=jI x++jI y:=by show(if 13=13 then _ else _)=_;rw[if_pos rfl]
 refine⟨_,css++dss,rfl,?_,by rw[hfl];exact HC.out,dY yH.out Yw (by omega) hg4 (by have:=yH.out.size;omega)⟩;rw[List.length_append,List.flatten_append];exact ho4
end Go.Proofs.Ytbjnhllkdilpfaa
namespace Go.Proofs.Ytbjnhllkdilpfaa
open Go.RowKit
set_option linter.unusedSimpArgs false
set_option linter.unusedVariables false
set_option maxRecDepth 10000
theorem AX {P : Nat → Prop} : ∀ (e : ax) (cs : List Value) (w : World), (∀ q, P q → q < w.heap.size) → kZ P w e cs → uJ e → aB e ≤ 1000000 →
  Calls Try.prog 56 #[.agg cs.toArray] w (MI P e w)
 |.leaf op n sc nm a p,cs,w,hP,h,hp,hs=>by
  have h0:=h;obtain rfl:cs=gK op n sc nm a p:=h;refine(AV op hp _ _ _ _ _ _ w).mono ?_;rintro r w' ⟨v,rfl,h1,h2⟩;exact⟨v,[gK op n sc nm a p],rfl,by simpa[gK]using h1,⟨h0,trivial⟩,h2⟩
 |.un op x p,cs,w,hP,h,hp,hs=>by
  have h0:=h;obtain⟨g,xs,rfl,_⟩:=h;refine(AV op hp.1 _ _ _ _ _ _ w).mono ?_;rintro r w' ⟨v,rfl,h1,h2⟩;exact⟨v,[opC op g 1 p],rfl,by simpa[opC]using h1,⟨h0,trivial⟩,h2⟩
 |.bin op x y p,cs,w,hP,h,hp,hs=>by
  have h0:=h;obtain⟨g,xs,ys,rfl,hPg,hk,hx,hy⟩:=h
  by_cases h13:op=13
  ·subst h13;have hs:1+aB x+aB y<=1000000:=hs;obtain⟨x0,x1,x2,x3,x4,x5,x6,rfl,_⟩:=hx.seven;obtain⟨y0,y1,y2,y3,y4,y5,y6,rfl,_⟩:=hy.seven
   exact QT x y g p x0 x1 x2 x3 x4 x5 x6 y0 y1 y2 y3 y4 y5 y6 w hP hk
    (fun W hW=>AX x _ W (fun q hq=>Nat.lt_of_lt_of_le (hP q hq) hW.size) (hx.old hW) hp.1 (by omega))
    (fun W hW=>AX y _ W (fun q hq=>Nat.lt_of_lt_of_le (hP q hq) hW.size) (hy.old hW) hp.2 (by omega)) (by omega)
  ·have hfl:jI (.bin op x y p)=[.bin op x y p]:=by show(if op=13 then _ else _)=_;rw[if_neg h13]
   refine(AV op h13 _ _ _ _ _ _ w).mono ?_;rintro r w' ⟨v,rfl,h1,h2⟩;exact⟨v,[opC op g 2 p],rfl,by simpa[opC]using h1,by rw[hfl];exact⟨h0,trivial⟩,h2⟩
structure vW (s:PS) (r:ax×PS):Prop where
 nodes:aB r.1<=1+2*(r.2.i-s.i)
 plain:uJ r.1
section
variable {L:List az}
theorem few0 (s:PS):vW s (Ar,s):=⟨by show 1<=_;omega,by show(0:Nat)≠13;decide⟩
theorem ED (pos:Nat) (s:PS):∀(l:List Str) (i op:Nat) (n a:Str) (x:PS),op=0\/25<=op->(iZ L pos i l (op,n,a,x)).1=0\/25<=(iZ L pos i l (op,n,a,x)).1
 |[],_,_,_,_,_,h=>h
 |w::l,i,op,n,a,x,h=>by
  rw[AO]
  split
  ·obtain⟨n1,a1,x1⟩:Str×Str×PS:=Qw L x i;exact ED pos s l _ _ _ _ _ (.inr (by omega))
  ·exact ED pos s l _ _ _ _ _ h
theorem QU (pos:Nat) (s:PS):vW s (fA L pos s):=by
 have h:=ED (L:=L) pos s jl 0 0 [] [] s (.inl rfl);unfold fA;generalize iZ L pos 0 jl (0,[],[],s)=r at *;obtain⟨op,n,a,x⟩:=r;simp only at h;refine⟨?_,?_⟩
 ·show 1<=_;omega
 ·show op≠13;omega
theorem vW.leaf {s s':PS} {op n sc p:Nat} {nm a:Str} (h:op≠13):vW s (.leaf op n sc nm a p,s'):=⟨by show 1<=_;omega,h⟩
theorem QW (he:dK L) (lv:PS->ax×PS) (hlv:∀s,gG L s->vW s (lv s)) (hgo:∀s,gG L s->bf L s (lv s).2) (s:PS) (h:gG L s):vW s (qJ L lv s):=by
 unfold qJ;simp only[]
 split
 ·exact vW.leaf (by decide)
 split
 ·exact vW.leaf (by decide)
 split
 ·exact vW.leaf (by decide)
 split
 ·exact vW.leaf (by decide)
 split
 ·rename_i hc
  have hk:=bn hc;have h1:=(iO he h hk).1;have h2:=hlv _ h1;have h3:=hgo _ h1;have h4:=(bf.need he [41] h3.ok).le;have h5:(cZ L s).i=s.i+1:=(iO he h hk).2.1;refine⟨Nat.le_trans h2.nodes ?_,h2.plain⟩
  show 1+2*((lv (cZ L s)).2.i-(cZ L s).i)<=1+2*((aJ L [41] (lv (cZ L s)).2).i - s.i)
  omega
 split
 ·exact vW.leaf (by decide)
 split
 ·rename_i hc
  have hk:(aY L s).kind≠0:=by
   rcases Bool.or_eq_true_iff.1 hc with hc|hc<;>exact bn hc
  have h0:=(iO he h hk).1;have h1:=bf.need he [40] h0;have h2:=hlv _ h1.ok;have h3:=hgo _ h1.ok;have h4:=(bf.need he [41] h3.ok).le;have h5:(cZ L s).i=s.i+1:=(iO he h hk).2.1;have h6:=h1.le;have h7:=h2.nodes;have h8:=h3.le;refine⟨?_,⟨by split<;>decide,h2.plain⟩⟩
  show 1+aB (lv (aJ L [40] (cZ L s))).1<=1+2*((aJ L [41] (lv (aJ L [40] (cZ L s))).2).i - s.i)
  omega
 ·exact QU _ s
theorem G9 (he:dK L) (lv:PS->ax×PS) (hlv:∀s,gG L s->vW s (lv s)) (hgo:∀s,gG L s->bf L s (lv s).2) (level:Nat) (s0:PS):∀(k:Nat) (x:ax) (s:PS),gG L s->s0.i<=s.i->aB x<=1+2*(s.i-s0.i)->uJ x->vW s0 (qI L lv level k x s)
 |0,x,s,h,h1,h2,h3=>⟨h2,h3⟩
 |k+1,x,s,h,h1,h2,h3=>by
  rw[GZ]
  split
  ·exact⟨h2,h3⟩
  split
  ·exact⟨h2,h3⟩
  rename_i hop
  have hk:=G6 hop;have g1:=bf.next he h hk;have f1:=hlv _ g1.ok;have g2:=hgo _ g1.ok;have h5:s.i+1<=(lv (aI s)).2.i:=g2.le;have h6:aB (lv (aI s)).1<=1+2*((lv (aI s)).2.i-(s.i+1)):=f1.nodes
  have hn:aB (.bin (Uz L level s) x (lv (aI s)).1 (aY L s).pos)<=1+2*((lv (aI s)).2.i-s0.i):=by
   show 1+aB x+aB (lv (aI s)).1<=_
   omega
  split
  ·exact⟨hn,h3,f1.plain⟩
  ·exact G9 he lv hlv hgo level s0 k _ _ g2.ok (by omega) hn ⟨h3,f1.plain⟩
theorem lN (he:dK L):∀(f level:Nat) (s:PS),gG L s->vW s (aN L f level s)
 |0,_,s,h=>few0 s
 |f+1,level,s,h=>by
  rw[DF]
  split
  ·exact few0 s
  split
  ·unfold uj
   split
   ·rename_i hc
    have hk:=bn hc;have h1:=(iO he h hk).1;have h2:=lN he f level _ h1;have h3:=(fB he f level _ h1).le;have h5:(cZ L s).i=s.i+1:=(iO he h hk).2.1;have h6:=h2.nodes;refine⟨?_,⟨by unfold Gy;split<;>decide,h2.plain⟩⟩
    show 1+aB (aN L f level (cZ L s)).1<=1+2*((aN L f level (cZ L s)).2.i-s.i)
    omega
   ·exact lN he f _ s h
  split
  ·exact QW he _ (fun s h=>lN he f 1 s h) (fun s h=>fB he f 1 s h) s h
  ·have h1:=lN he f (level+1) s h;have h2:=fB he f (level+1) s h;exact G9 he _ (fun s h=>lN he f (level+1) s h) (fun s h=>fB he f (level+1) s h) level s _ _ _ h2.ok h2.le h1.nodes h1.plain
theorem Ha (he:dK L) (i:Nat) (hi:i<L.length):aB (lY L i).1<=1+2*L.length/\uJ (lY L i).1/\((lY L i).2.2.2=0->i<=(lY L i).2.1/\(lY L i).2.1<L.length):=by
 have hok:gG L ⟨i,0,0,0⟩:=⟨hi,Nat.zero_le _⟩
 have h1:=lN he (kR L) 1 _ hok;have h2:=fB he (kR L) 1 _ hok;have hR:lY L i=if(aN L (kR L) 1 ⟨i,0,0,0⟩).2.err≠0 then(Ar,0,(aN L (kR L) 1 ⟨i,0,0,0⟩).2.pos,(aN L (kR L) 1 ⟨i,0,0,0⟩).2.err)else((aN L (kR L) 1 ⟨i,0,0,0⟩).1,(aN L (kR L) 1 ⟨i,0,0,0⟩).2.i,0,0):=rfl
 rw[hR]
 split
 ·rename_i hc
  refine⟨by show 1<=_;omega,by show(0:Nat)≠13;decide,fun h=>absurd h hc⟩
 ·have:=h1.nodes;have:=h2.ok.lt;have:=h2.le;exact⟨by show aB (aN L (kR L) 1 ⟨i,0,0,0⟩).1<=1+2*L.length;omega,h1.plain,fun _=>⟨h2.le,h2.ok.lt⟩⟩
end
end Go.Proofs.Ytbjnhllkdilpfaa
namespace Go.Proofs.Ytbjnhllkdilpfaa
open Go.RowKit
set_option maxRecDepth 100000
set_option maxHeartbeats 16000000
set_option linter.unusedVariables false
set_option linter.unusedSimpArgs false
def aZ.cells (x:aZ):List Value:=[.int .i64 x.form,.string (bytes x.type),.string (bytes x.name),.int .i64 x.pos]
theorem xO {L:List az} {s:PS} {n:Nat} (h:(decide (n=8)&&(decide ((aY L s).kind=2)||eX L s [33]))=true):jo L n s=(⟨0,[],[],0⟩,aS L 2 s):=by
 unfold jo;simp only[];rw[if_pos (by simpa using h)]
structure Xn (b:Nat) (t:TypeId) (rest:List Value) (L:List az) (LA:Option Addr) (Lc:Nat) (gr g5:Nat) (T:az) (w:World) (x:PS) (W:World):Prop where
 st:dh b t rest L LA Lc x W
 kr:Bk W gr 126 #[.int .i64 0,.string ⟨#[]⟩,.string ⟨#[]⟩,.int .i64 0]
 k5:Bk W g5 102 #[.int .i64 T.kind,.string (bytes T.text),.int .i64 T.n,.int .i64 T.scale,.int .i64 T.pos]
 gw:w.grownBy W (some b)
section
variable {b:Nat} {t:TypeId} {rest:List Value} {L:List az} {LA:Option Addr} {Lc gr g5:Nat} {T:az} {w W W':World} {x y:PS}
theorem Xn.old (h:Xn b t rest L LA Lc gr g5 T w x W) (hb:Below W.heap.size W W'):Xn b t rest L LA Lc gr g5 T w x W':=
 ⟨h.st.old hb,h.kr.old hb,h.k5.old hb,h.gw.trans (below_grown hb (some b))⟩
theorem Xn.steps (h:Xn b t rest L LA Lc gr g5 T w x W) (hbr:b<gr) (hb5:b<g5) (hs:Steps b t rest L LA Lc y W W'):Xn b t rest L LA Lc gr g5 T w y W':=
 ⟨hs.st,h.kr.grown hs.grown (aA (by omega)),h.k5.grown hs.grown (aA (by omega)),h.gw.trans hs.grown⟩
end
theorem QX:(Try.prog.info? 126).map (fun i=>(i.zero,i.size,i.bytes))=some (some (.agg #[.int .i64 0,.string ⟨#[]⟩,.string ⟨#[]⟩,.int .i64 0]),4,48):=by kernel_rfl
theorem xP (w:World):(sizeOf 126).run Try.prog w=.ok 4 w:=by
 obtain⟨i,hi,h0,h1,h2⟩:=info_parts QX;simp[sizeOf,typeInfo,hi,h1]
theorem EE {L : List az} {s : PS} {n : Nat} (h : (decide (n = 8) && (decide ((aY L s).kind = 2) || eX L s [33])) = false) :
  jo L n s=(
   let neg:=eX L s [33]
   let s1:=if neg then aI s else s
   let plus:=decide ((dw L s1).2.err=0)&&(!neg&&eX L (dw L s1).2 [43])
   let s3:=if plus then aI (dw L s1).2 else(dw L s1).2
   (⟨if neg then 3 else if plus then 2 else 1,(dw L s1).1,(dw L s3).1,(aY L s).pos⟩,(dw L s3).2)):=by
 unfold jo;simp only[];rw[if_neg (by simpa using h)]
structure Jf (b:Nat) (t:TypeId) (rest:List Value) (L:List az) (LA:Option Addr) (Lc:Nat) (gr g6:Nat) (cs:List Value) (w:World) (x:PS) (W:World):Prop where
 st:dh b t rest L LA Lc x W
 kr:Bk W gr 126 #[.int .i64 0,.string ⟨#[]⟩,.string ⟨#[]⟩,.int .i64 0]
 k6:Bk W g6 126 cs.toArray
 gw:w.grownBy W (some b)
section
variable {b:Nat} {t:TypeId} {rest:List Value} {L:List az} {LA:Option Addr} {Lc gr g6:Nat} {cs:List Value} {w W W':World} {x y:PS}
theorem Jf.old (h:Jf b t rest L LA Lc gr g6 cs w x W) (hb:Below W.heap.size W W'):Jf b t rest L LA Lc gr g6 cs w x W':=
 ⟨h.st.old hb,h.kr.old hb,h.k6.old hb,h.gw.trans (below_grown hb (some b))⟩
theorem Jf.steps (h:Jf b t rest L LA Lc gr g6 cs w x W) (hbr:b<gr) (hb5:b<g6) (hs:Steps b t rest L LA Lc y W W'):Jf b t rest L LA Lc gr g6 cs w y W':=
 ⟨hs.st,h.kr.grown hs.grown (aA (by omega)),h.k6.grown hs.grown (aA (by omega)),h.gw.trans hs.grown⟩
theorem Jf.put (h:Jf b t rest L LA Lc gr g6 cs w x W) (hbg:b<g6) (hw:w.heap.size<=g6) (hr:gr<g6) (i:Nat) (v:Value):Jf b t rest L LA Lc gr g6 (cs.set i v) w x (W.setCell ⟨g6,i,none⟩ v):=
 ⟨h.st.far hbg v,h.kr.far (p:=⟨g6,i,none⟩) (by show gr≠g6;omega) v,by simpa using h.k6.put i v,vT h.gw hw⟩
theorem Jf.next (h:Jf b t rest L LA Lc gr g6 cs w x W) (hbr:b<gr) (hb5:b<g6):Jf b t rest L LA Lc gr g6 cs w (aI x) (W.setCell ⟨b,1,none⟩ (.int .i64 ((x.i:Int)+1))):=
 h.steps hbr hb5 (step_next b t rest L LA Lc x W h.st)
end
theorem bf.MJ {L:List az} {s:PS} (he:dK L) (h:gG L s):bf L s (dw L s).2:=by
 unfold dw
 split
 ·exact bf.fail _ h
 ·rename_i hk
  exact bf.next he h (by intro h0;apply hk;right;rw[h0];decide)
section
variable (b:Nat) (t:TypeId) (rest:List Value) (L:List az) (LA:Option Addr) (Lc:Nat) (s:PS) (w:World)
theorem QY (n : Nat) (h : dh b t rest L LA Lc s w) (he : dK L) (hi : gG L s) (hL : L.length ≤ 4001) (hn : n ≤ 8) :
  Calls Try.prog 53 #[.pointer (some ⟨b,0,none⟩),.int .i64 n] w fun r w'=>r=.returned (.agg (jo L n s).1.cells.toArray)/\Steps b t rest L LA Lc (jo L n s).2 w w':=by
 have hsi:=hi.lt;obtain⟨tb,tq,hA,htb,hc⟩:=h.rd.elem (n:=5) vS (by omega) hi.lt;have r0:w.cell? ⟨tb,tq+s.i*5,none⟩=some (.int .i64 L[s.i].kind):=hc 0 _ rfl;have r1:w.cell? ⟨tb,tq+s.i*5+1,none⟩=some (.string (bytes L[s.i].text)):=hc 1 _ rfl;have r2:w.cell? ⟨tb,tq+s.i*5+2,none⟩=some (.int .i64 L[s.i].n):=hc 2 _ rfl;have r3:w.cell? ⟨tb,tq+s.i*5+3,none⟩=some (.int .i64 L[s.i].scale):=hc 3 _ rfl;have r4:w.cell? ⟨tb,tq+s.i*5+4,none⟩=some (.int .i64 L[s.i].pos):=hc 4 _ rfl;have c0:=h.c0;have c1:=h.c1;rw[hA]at c0;have hbl:=h.bk.lt;have HS:=zH h;obtain⟨RES,hres⟩:∃R,jo L n s=R:=⟨_,rfl⟩
 rw[hres];have aG:=zH hres;clear hc hres
 go_enter Try.func53,Try.ntmps53
 go_upto_region 1 with fail
 have hbW:Below w.heap.size w (w.alloc (.cells #[.int .i64 0,.string ⟨#[]⟩,.string ⟨#[]⟩,.int .i64 0] 126)):=zR.alloc zL _;have kr:Bk (w.alloc (.cells #[.int .i64 0,.string ⟨#[]⟩,.string ⟨#[]⟩,.int .i64 0] 126)) w.heap.size 126 #[.int .i64 0,.string ⟨#[]⟩,.string ⟨#[]⟩,.int .i64 0]:=Bk.new w 126 _;have hlt1:b<w.heap.size:=hbl;have hlt2:tb<w.heap.size:=by omega
 replace c0:=(aT hbW b 0 hlt1).trans c0;replace c1:=(aT hbW b 1 hlt1).trans c1;replace r0:=(aT hbW tb _ hlt2).trans r0;replace r1:=(aT hbW tb _ hlt2).trans r1;replace r2:=(aT hbW tb _ hlt2).trans r2;replace r3:=(aT hbW tb _ hlt2).trans r3;replace r4:=(aT hbW tb _ hlt2).trans r4;have jP:=zH (HS.out.old hbW);have KRW:=zH kr;have GW:=zH (below_grown hbW (some b));have hWz:=kr.lt;have HT:Hid (aY L s=L[s.i]):=zH (rX hsi);obtain⟨i,hii⟩:∃i,s.i=i:=⟨_,rfl⟩
 have HII:=zH hii;generalize L[s.i]=T at *;rw[hii]at c1 r0 r1 r2 r3 r4 hsi;clear h hA HS hii;generalize w.alloc (.cells #[.int .i64 0,.string ⟨#[]⟩,.string ⟨#[]⟩,.int .i64 0] 126)=W at *
 refine wx (fun k => k == 12) [.is (.pointer (some ⟨b, 0, none⟩)),
   .is (.pointer (some ⟨b,0,none⟩)),
   .is (.pointer (some ⟨b,0,none⟩)),
   .is (.pointer (some ⟨b,0,none⟩)),
   .is (.slice (some ⟨tb,tq,none⟩) L.length Lc),
   .is (.pointer (some ⟨b,0,none⟩)),
   .is (.pointer (some ⟨b,0,none⟩)),
   .is (.pointer (some ⟨b,0,none⟩)),
   .is (.pointer (some ⟨b,1,none⟩)),
   .is (.int .i64 (i:Nat)),
   .is (.pointer (some ⟨tb,tq+i*5,none⟩)),
   .is (.agg #[.int .i64 T.kind,.string (bytes T.text),.int .i64 T.n,.int .i64 T.scale,.int .i64 T.pos]),
   .st (fun v w=>∃g,v=.pointer (some ⟨g,0,none⟩)/\W.heap.size<=g/\Bk w g 102 #[.int .i64 0,.string ⟨#[]⟩,.int .i64 0,.int .i64 0,.int .i64 0]) (fun _ _ _ hb ⟨g,h1,h0,h2⟩=>⟨g,h1,h0,h2.old hb⟩)] [10,11,12] (by kernel_rfl) (by kernel_rfl) (by kernel_rfl)
   (fun C=>.c (px C rfl (fun _ _=>rfl)) <|
   .c (px C rfl (fun _ _=>rfl)) <|
   .c (px C rfl (fun _ _=>rfl)) <|
   .c (px C rfl (fun _ _=>rfl)) <|
   .c (px C rfl (fun _ h=>bW (U5 (bc h c0)))) <|
   .c (px C rfl (fun _ _=>rfl)) <|
   .c (px C rfl (fun _ _=>rfl)) <|
   .c (px C rfl (fun _ _=>rfl)) <|
   .c (px C rfl (fun _ _=>rfl)) <|
   .c (px C rfl (fun _ h=>bW (lJ (bc h c1)))) <|
   .c (pz [4,9] [] (by kernel_rfl) fun qK qa wr hB qO qF hK=>?_) <|
   .c (pz [10] [] (by kernel_rfl) fun qK qa wr hB qO qF hK=>?_) <|
   .c (pf [] [] (by kernel_rfl) fun qK qa wr hB qO qF hK=>?_) <| .nil) ?_
 ·have e11:=ay qF.1 rfl rfl;have e16:=ay qF.2.1 rfl rfl;clear qO qF;go_simp;exact hK _ _ zR rfl
 ·have e17:=ay qF.1 rfl rfl;clear qO qF;have hr0:=zE hB r0;have hr1:=zE hB r1;have hr2:=zE hB r2;have hr3:=zE hB r3;have hr4:=zE hB r4;go_simp;exact hK _ _ zR rfl
 ·clear qO qF;go_simp;exact hK _ _ (zR.alloc zL _) ⟨_,rfl,hB.size,Bk.new _ _ _⟩ ⟨_,rfl,by simp,by simp⟩
 intro qx wr hB hR hS;have r12:∃g,qx 12=.pointer (some ⟨g,0,none⟩)/\W.heap.size<=g/\Bk wr g 102 #[.int .i64 0,.string ⟨#[]⟩,.int .i64 0,.int .i64 0,.int .i64 0]:=hR 12 rfl rfl;clear hR hS;simp only[bJ,List.take_succ_cons,List.take_zero,List.drop_succ_cons,List.drop_zero,List.toList_toArray,List.length_cons,List.length_nil,Act.put,List.setIfInBounds_toArray,List.set_cons_zero,List.set_cons_succ];generalize qx 12=z5 at r12⊢;obtain⟨g5,r12,n5,k5⟩:=r12;subst r12;go_upto_region 2 with(first|(refine ae eF rfl _ _ rfl rfl [.int .i64 T.kind,.string (bytes T.text),.int .i64 T.n,.int .i64 T.scale,.int .i64 T.pos] rfl k5 rfl rfl rfl ?_;intro wA pA;go_frame))
 have V0:Xn b t rest L LA Lc w.heap.size g5 T w s wA:=⟨(jP.out.old hB).jC pA (by omega),pA.BQ (KRW.out.old hB) (by omega),pA.bk,eG (GW.out.trans (below_grown hB (some b))) pA (by omega)⟩
 have qL:=zH V0;have hz5:w.heap.size<g5:=by omega
 have e0:wA.cell? ⟨g5,0,none⟩=some (.int .i64 T.kind):=V0.k5.cell 0;have e4:wA.cell? ⟨g5,4,none⟩=some (.int .i64 T.pos):=V0.k5.cell 4
 have HIS:Hid (∀(x:PS) (W:World) (S:ByteArray) (v:Str),S.toList=v->gG L x->dh b t rest L LA Lc x W->Calls Try.prog 39 #[.pointer (some ⟨b,0,none⟩),.string S] W fun r w'=>r=.returned (.bool (eX L x v))/\Below W.heap.size W w'):=zH fun x W S v hv ho h=>by
  have:=lu b t rest L LA Lc x W S h ho.lt hL
  rwa [hv]at this
 have Xo:(⟨#[33]⟩:ByteArray).toList=[33]:=by rw[ByteArray.toList_eq]
 clear V0 pA k5 hB kr n5 c0 c1 r0 r1 r2 r3 r4 jP KRW GW;obtain⟨stop,hstop⟩:∃z,(decide (n=8)&&(decide (T.kind=2)||eX L s [33]))=z:=⟨_,rfl⟩
 go_cut[31] (fun v wx=>v=.bool stop/\Hid (Xn b t rest L LA Lc w.heap.size g5 T w s wx))
 case first=>
  as_aux_lemma=>
  by_cases h8:n=8
  case neg=>
   have h8I:((n:Int)==8)=false:=zB (by omega)
   have hst:stop=false:=by rw[<-hstop];simp[h8]
   subst hst;clear hstop;go_wp2_with fail
   go_meet
   exact⟨rfl,qL⟩
  case pos=>
   have h8I:((n:Int)==8)=true:=by rw[beq_iff_eq];omega
   by_cases hk:T.kind=2
   case pos=>
    have QM:((T.kind:Int)==2)=true:=by rw[beq_iff_eq];omega
    have hst:stop=true:=by rw[<-hstop];simp[h8,hk]
    subst hst;clear hstop h8 hk;go_wp2_with fail
    go_meet
    exact⟨rfl,qL⟩
   case neg=>
    have QM:((T.kind:Int)==2)=false:=zB (by omega)
    have hst:eX L s [33]=stop:=by rw[<-hstop];simp[h8,hk]
    have HST:=zH hst;clear hstop hst h8 hk;go_wp2_with fail
    refine(HIS.out s _ _ _ Xo hi qL.out.st).mono ?_;rintro r w2 ⟨rfl,hb2⟩;have iy:=zH (qL.out.old hb2);rw[HST.out];go_wp2_with fail
    go_meet
    exact⟨rfl,iy⟩
 case rest=>
  obtain⟨rfl,HV⟩:=hcut;cases stop
  case true=>
   as_aux_lemma=>
   have hP:=xO (L:=L) (s:=s) (n:=n) (by rw[HT.out];exact hstop);have hP:=aG.out.symm.trans hP;subst hP;have jR:Hid (∀W:World,dh b t rest L LA Lc s W->Calls Try.prog 42 #[.pointer (some ⟨b,0,none⟩),.int .i64 2] W fun r w'=>r=.returned (.tuple #[])/\Steps b t rest L LA Lc (aS L 2 s) W w'):=zH fun W h=>kU b t rest L LA Lc s W 2 h hi.lt hL
   clear hstop aG;go_wp2_with fail
   refine(jR.out _ HV.out.st).mono ?_;rintro r w2 ⟨rfl,hs2⟩;have V2:=HV.out.steps hbl (by omega) hs2;obtain⟨y0,y1,y2,y3⟩:=zc4 V2.kr;have Vo:=zH V2.kr;have HST:=zH V2.st;have HGW:=zH V2.gw;clear hs2 jR V2 HV;go_wp2_with (first|(refine ae xP rfl _ _ rfl rfl [.int .i64 0,.string ⟨#[]⟩,.string ⟨#[]⟩,.int .i64 0] rfl Vo.out rfl rfl rfl ?_;intro w9 p9))
   obtain⟨u0,u1,u2,u3⟩:=zc4 p9.bk;refine bodyPost_ret (v:=.agg #[.int .i64 0,.string ⟨#[]⟩,.string ⟨#[]⟩,.int .i64 0]) (by simp[results,Try.results53,go_sem,u0,u1,u2,u3]) rfl ?_;exact⟨rfl,HST.out.jC p9 (by omega),eG HGW.out p9 (by omega)⟩
  case false=>
   as_aux_lemma=>
   have hP:=EE (L:=L) (s:=s) (n:=n) (by rw[HT.out];exact hstop);have hP:=aG.out.symm.trans hP;clear aG hstop;have e4:=HV.out.k5.cell 4;obtain⟨neg,hneg⟩:∃z,eX L s [33]=z:=⟨_,rfl⟩
   rw[hneg,HT.out]at hP;simp only[]at hP;have HP:=zH hP;have Po:=zH hneg;clear hneg hP;have HN7:Hid (∀(x:PS) (W:World),gG L x->dh b t rest L LA Lc x W->Calls Try.prog 58 #[.pointer (some ⟨b,0,none⟩)] W fun r w'=>r=.returned (.string (bytes (dw L x).1))/\Steps b t rest L LA Lc (dw L x).2 W w'):=zH fun x W ho h=>DJ b t rest L LA Lc x W h ho.lt hL
   have hq6:=HV.out.kr.lt;have hwsz:=HV.out.gw.size;go_upto_region 6 with fail
   have J0:Jf b t rest L LA Lc w.heap.size wc.heap.size [.int .i64 1,.string ⟨#[]⟩,.string ⟨#[]⟩,.int .i64 T.pos] w s (wc.alloc (.cells #[.int .i64 1,.string ⟨#[]⟩,.string ⟨#[]⟩,.int .i64 T.pos] 126)):=
    have hb1:Below wc.heap.size wc (wc.alloc (.cells #[.int .i64 1,.string ⟨#[]⟩,.string ⟨#[]⟩,.int .i64 T.pos] 126)):=zR.alloc zL _
    ⟨HV.out.st.old hb1,HV.out.kr.old hb1,Bk.new wc _ _,HV.out.gw.trans (below_grown hb1 _)⟩
   have HJ0:=zH J0;have hbg:b<wc.heap.size:=by omega
   have Vp:w.heap.size<=wc.heap.size:=by omega
   clear J0 HV e4;generalize wc.alloc (.cells #[.int .i64 1,.string ⟨#[]⟩,.string ⟨#[]⟩,.int .i64 T.pos] 126)=W1 at *;generalize wc.heap.size=g6 at *;have hbr:b<w.heap.size:=hbl;go_upto_if 43 with(first|(refine(HIS.out s _ _ _ Xo hi HJ0.out.st).mono ?_;rintro r w2 ⟨rfl,hb2⟩;rw[Po.out];have HJ1:=zH (HJ0.out.old hb2);clear HJ0 hb2))
   obtain⟨fo,hfo⟩:∃z:Nat,(if neg=true then 3 else 1)=z:=⟨_,rfl⟩
   obtain⟨s1,hs1⟩:∃z,(if neg=true then aI s else s)=z:=⟨_,rfl⟩
   have ho1:gG L s1:=by
    rw[<-hs1];cases neg
    ·exact hi
    ·exact(bf.next he hi (bn Po.out)).ok
   have pM:=HP.out;rw[hs1]at pM;have HP:=zH pM;clear pM
   go_cut[] (fun wx=>Hid (Jf b t rest L LA Lc w.heap.size g6 [.int .i64 fo,.string ⟨#[]⟩,.string ⟨#[]⟩,.int .i64 T.pos] w s1 wx))
   case first=>
    as_aux_lemma=>
    cases neg
    case false=>
     simp only[Bool.false_eq_true,if_false]at hfo hs1;subst hfo;subst hs1;go_wp2_with fail
     go_meet
     exact HJ1
    case true=>
     simp only[if_true]at hfo hs1;subst hfo;subst hs1;have hJ:=HJ1.out;have hJ2:=hJ.put hbg Vp hq6 0 (.int .i64 3);have d1:=hJ2.st.c1;have f1:=hJ2.st.fr 1;have f6:=hJ.k6.frozen 0;have c6:=hJ.k6.cell 0;have Jg:=zH (hJ2.next hbr hbg);have hi1:s.i<=4001:=by have:=hi.lt;omega
     clear hJ hJ2 HJ1;go_wp2_with fail
     go_meet
     exact Jg
   case rest=>
   have HJ:=hcut;clear hcut HJ1 hs1;have Ew:=HN7.out s1 wc ho1 HJ.out.st;have ho2:gG L (dw L s1).2:=(bf.MJ he ho1).ok;obtain⟨ty,s2,h12⟩:∃a z,dw L s1=(a,z):=⟨_,_,rfl⟩
   have pM:=HP.out;clear HP;rw[h12]at Ew ho2 pM;simp only at Ew ho2 pM;have xu:=zH Ew;have HPH:=zH pM;clear Ew h12 pM;go_wp2_with fail
   refine xu.out.mono ?_;rintro r w2 ⟨rfl,hs2⟩;have J2:=HJ.out.steps hbr hbg hs2;have Jg:=zH (J2.put hbg Vp hq6 1 (.string (bytes ty)));have f6:=J2.k6.frozen 1;have c6:=J2.k6.cell 1;clear HJ xu hs2 J2;go_upto_region 10 with fail
   clear f6 c6;generalize w2.setCell ⟨g6,1,none⟩ (.string (bytes ty))=W3 at *;have pM:=HPH.out;clear HPH;obtain⟨plus,QZ⟩:∃z,(decide (s2.err=0)&&(!neg&&eX L s2 [43]))=z:=⟨_,rfl⟩
   rw[QZ]at pM;have Yz:(⟨#[43]⟩:ByteArray).toList=[43]:=by rw[ByteArray.toList_eq]
   have Pq:=zH QZ;have HP:=zH pM;clear QZ pM
   go_cut[73] (fun v wx=>v=.bool plus/\Hid (Jf b t rest L LA Lc w.heap.size g6 [.int .i64 fo,.string (bytes ty),.string ⟨#[]⟩,.int .i64 T.pos] w s2 wx))
   case first=>
    as_aux_lemma=>
    have d3:=Jg.out.st.c3
    by_cases h0:s2.err=0
    case neg=>
     have iV:((s2.err:Int)==0)=false:=zB (by omega)
     have hpl:plus=false:=by rw[<-Pq.out];simp[h0]
     subst hpl;clear h0;go_wp2_with fail
     go_meet
     exact⟨rfl,Jg⟩
    case pos=>
     have iV:((s2.err:Int)==0)=true:=by rw[beq_iff_eq];omega
     have c60:=Jg.out.k6.cell 0;cases neg
     case true=>
      simp only[if_true]at hfo;subst hfo;have hpl:plus=false:=by rw[<-Pq.out];simp
      subst hpl;clear h0;go_wp2_with fail
      go_meet
      exact⟨rfl,Jg⟩
     case false=>
      simp only[Bool.false_eq_true,if_false]at hfo;subst hfo;have hst:eX L s2 [43]=plus:=by rw[<-Pq.out];simp[h0]
      have HST:=zH hst;clear hst h0;go_wp2_with fail
      refine(HIS.out s2 _ _ _ Yz ho2 Jg.out.st).mono ?_;rintro r w4 ⟨rfl,hb4⟩;have HJ4:=zH (Jg.out.old hb4);rw[HST.out];clear Jg d3 c60 hb4;go_wp2_with fail
      go_meet
      exact⟨rfl,HJ4⟩
   case rest=>
   obtain⟨rfl,HJ⟩:=hcut;clear Jg;go_upto_if 73 with fail
   obtain⟨fo2,Q3⟩:∃z:Nat,(if neg=true then 3 else if plus=true then 2 else 1)=z:=⟨_,rfl⟩
   obtain⟨s3,hs3⟩:∃z,(if plus=true then aI s2 else s2)=z:=⟨_,rfl⟩
   have pM:=HP.out;clear HP;rw[Q3,hs3]at pM;have HP:=zH pM;clear pM
   have hpn:plus=true->neg=false/\eX L s2 [43]=true:=by
    intro h;have:=Pq.out;rw[h]at this;cases neg<;>simp at this
    exact⟨rfl,this.2⟩
   have ho3:gG L s3:=by
    rw[<-hs3];cases plus
    ·exact ho2
    ·exact(bf.next he ho2 (bn (hpn rfl).2)).ok
   go_cut[] (fun wx=>Hid (Jf b t rest L LA Lc w.heap.size g6 [.int .i64 fo2,.string (bytes ty),.string ⟨#[]⟩,.int .i64 T.pos] w s3 wx))
   case first=>
    as_aux_lemma=>
    cases plus
    case false=>
     simp only[Bool.false_eq_true,if_false]at Q3 hs3;obtain rfl:fo=fo2:=hfo.symm.trans Q3;subst hs3;go_wp2_with fail
     go_meet
     exact HJ
    case true=>
     have hn:=(hpn rfl).1;subst hn;simp only[Bool.false_eq_true,if_false,if_true]at Q3 hs3 hfo;subst Q3;subst hs3;subst hfo;have hJ:=HJ.out;have hJ2:=hJ.put hbg Vp hq6 0 (.int .i64 2);have d1:=hJ2.st.c1;have f1:=hJ2.st.fr 1;have f6:=hJ.k6.frozen 0;have c6:=hJ.k6.cell 0;have Jg:=zH (hJ2.next hbr hbg);have hi1:s2.i<=4001:=by have:=ho2.lt;omega
     clear hJ hJ2 HJ hpn;go_wp2_with fail
     go_meet
     exact Jg
   case rest=>
   have Jg:=hcut;clear hcut HJ hs3 hpn ho2;have Ew:=HN7.out s3 wc ho3 Jg.out.st;obtain⟨nm,s4,h34⟩:∃a z,dw L s3=(a,z):=⟨_,_,rfl⟩
   have pM:=HP.out;clear HP;rw[h34]at Ew pM;simp only at Ew pM;have HP:=zH pM;clear pM;have xu:=zH Ew;clear Ew h34;go_wp2_with fail
   refine xu.out.mono ?_;rintro r w4 ⟨rfl,hs4⟩;have J4:=Jg.out.steps hbr hbg hs4;have J5:=J4.put hbg Vp hq6 2 (.string (bytes nm));have f6:=J4.k6.frozen 2;have c6:=J4.k6.cell 2;have HJ5:=zH J5;clear J5 Jg xu hs4 J4;go_upto_region 14 with fail
   clear f6 c6;generalize w4.setCell ⟨g6,2,none⟩ (.string (bytes nm))=W5 at *;have J5:=HJ5.out;obtain⟨y0,y1,y2,y3⟩:=zc4 J5.k6;have Vo:=zH J5.kr;have HST:=zH J5.st;have HGW:=zH J5.gw;clear J5 HJ5;go_wp2_with (first|(refine ae xP rfl _ _ rfl rfl [.int .i64 fo2,.string (bytes ty),.string (bytes nm),.int .i64 T.pos] rfl Vo.out rfl rfl rfl ?_;intro w9 p9))
   obtain⟨u0,u1,u2,u3⟩:=zc4 p9.bk;refine bodyPost_ret (v:=.agg #[.int .i64 fo2,.string (bytes ty),.string (bytes nm),.int .i64 T.pos]) (by simp[results,Try.results53,go_sem,u0,u1,u2,u3]) rfl ?_;have hP:=HP.out;subst hP;exact⟨rfl,HST.out.jC p9 (by omega),eG HGW.out p9 (by omega)⟩
end
end Go.Proofs.Ytbjnhllkdilpfaa
