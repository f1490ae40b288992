/- Part 13 of the proof. No conditions. -/
import Derived.Test.YtbjnhllkdilpfaaZc12
namespace Go.Proofs.Ytbjnhllkdilpfaa
open Go.RowKit
set_option maxRecDepth 100000
set_option maxHeartbeats 16000000
set_option linter.unusedVariables false
set_option linter.unusedSimpArgs false
theorem qM {a:Act} {d:Nat} {v:Value} (h:a.tmps[d]? =some v):a.eval (.tmp d)=v:=by
 show a.tmps.getD d undef=v
 rw[Array.getD_eq_getD_getElem?,h];rfl
theorem zD {op : Oper} {a : Act} {w : World} {K : Act → World → Prop} {Q : Exit → Act → World → Prop} {t0 t : TypeId} {g n : Nat} {cs : Array Value} (hsz : ∀ w, (sizeOf t0).run Try.prog w = .ok n w)
  (x y:Operand) (hop:op.op=Op.store t0 x y) (hx:a.eval x=.pointer (some ⟨g,0,none⟩)) (ds:List Value) (hy:a.eval y=.agg ds.toArray) (h:Bk w g t cs) (hn:ds.length=n) (ho:cs.size=n)
  (h1:ds.all Value.oneCell'=true) (hK:∀w':World,lH w g t ds.toArray w'->K (a.put op.dst undef) w'):op.wp Try.prog a w K Q:=by
 obtain⟨w',hr,hp⟩:=vw (o:=0) hsz h ds hn (by omega) h1;unfold Oper.wp;simp[execOp,hop,hx,hy,hr,Result.andThen];exact hK _ (zT ds cs (by omega)▸hp)
theorem lvih (b:Nat) (t:TypeId) (rest:List Value) (L:List az) (LA:Option Addr) (Lc:Nat) (he:dK L) (hL:L.length<=4001):∀f,QP b t rest L LA Lc f
 |0=>fun level s w h1 h2 h hi hf=>by omega
 |f+1=>fun level s w h1 h2 h hi hf=>JY b t rest L LA Lc f (lvih b t rest L LA Lc he hL f) level s w h1 h2 h he hi hL hf
def MH (L:List az) (i:Nat) (w:World) (e:Ending) (w':World):Prop:=
 ∃cs,e=.returned (.tuple #[.agg cs.toArray,.int .i64 ((lY L i).2.1:Nat),.int .i64 ((lY L i).2.2.1:Nat),.int .i64 ((lY L i).2.2.2:Nat)])/\kZ (fun g=>w.heap.size<=g) w' (lY L i).1 cs/\Below w.heap.size w w'
theorem readB {gr:Nat} {w W W':World} (h:Below gr w W) (hg:W.grownBy W' (some gr)) (hl:gr<W.heap.size):Below gr w W':=
 h.trans ⟨hg.os,hg.tape,hg.output,hg.size,fun q hq=>hg.block q (Nat.lt_trans hq hl) (aA (by omega))⟩
theorem QS (L : List az) (LA : Option Addr) (Lc i : Nat) (w : World) (hrd : Rd w w.heap.size LA (L.flatMap az.cells)) (he : dK L) (hi : i < L.length) (hL : L.length ≤ 4001) :
  Calls Try.prog 55 #[.slice LA L.length Lc,.int .i64 i] w (MH L i w):=by
 have hok:gG L ⟨i,0,0,0⟩:=⟨hi,Nat.zero_le _⟩
 have qm:Hid (∀W:World,dh (w.heap.size+1) 96 [] L LA Lc ⟨i,0,0,0⟩ W->Calls Try.prog 80 #[.pointer (some ⟨w.heap.size+1,0,none⟩),.int .i64 1] W (jd (w.heap.size+1) 96 [] L LA Lc (aN L (kR L) 1 ⟨i,0,0,0⟩) W)):=zH fun W h=>lvih _ _ _ L LA Lc he hL (kR L) 1 _ W (by omega) (by omega) h hok (by show 10*(L.length-i)+(9-1)<=10*L.length+10;omega)
 have hR:lY L i=if(aN L (kR L) 1 ⟨i,0,0,0⟩).2.err≠0 then(Ar,0,(aN L (kR L) 1 ⟨i,0,0,0⟩).2.pos,(aN L (kR L) 1 ⟨i,0,0,0⟩).2.err)else((aN L (kR L) 1 ⟨i,0,0,0⟩).1,(aN L (kR L) 1 ⟨i,0,0,0⟩).2.i,0,0):=rfl
 unfold MH;generalize lY L i=RES at *;generalize aN L (kR L) 1 ⟨i,0,0,0⟩=rr at *;obtain⟨x,s5⟩:=rr;simp only at hR qm;have HR:=zH hR;have vg:=zH hrd;clear hR hrd hok
 go_enter Try.func55,Try.ntmps55
 have k0:Bk (w.alloc (.cells #[.int .i64 0,.slice none 0 0,.int .i64 0,.int .i64 0,.string ⟨#[]⟩,.string ⟨#[]⟩,.int .i64 0] 118)) w.heap.size 118 #[.int .i64 0,.slice none 0 0,.int .i64 0,.int .i64 0,.string ⟨#[]⟩,.string ⟨#[]⟩,.int .i64 0]:=Bk.new w 118 _;have hb0:Below w.heap.size w (w.alloc (.cells #[.int .i64 0,.slice none 0 0,.int .i64 0,.int .i64 0,.string ⟨#[]⟩,.string ⟨#[]⟩,.int .i64 0] 118)):=zR.alloc zL _;have hz0:(w.alloc (.cells #[.int .i64 0,.slice none 0 0,.int .i64 0,.int .i64 0,.string ⟨#[]⟩,.string ⟨#[]⟩,.int .i64 0] 118)).heap.size=w.heap.size+1:=by simp
 have hb1:Below (w.alloc (.cells #[.int .i64 0,.slice none 0 0,.int .i64 0,.int .i64 0,.string ⟨#[]⟩,.string ⟨#[]⟩,.int .i64 0] 118)).heap.size (w.alloc (.cells #[.int .i64 0,.slice none 0 0,.int .i64 0,.int .i64 0,.string ⟨#[]⟩,.string ⟨#[]⟩,.int .i64 0] 118)) ((w.alloc (.cells #[.int .i64 0,.slice none 0 0,.int .i64 0,.int .i64 0,.string ⟨#[]⟩,.string ⟨#[]⟩,.int .i64 0] 118)).alloc (.cells #[.slice LA L.length Lc,.int .i64 i,.int .i64 0,.int .i64 0,.int .i64 0] 96)):=zR.alloc zL _
 have ks:Bk ((w.alloc (.cells #[.int .i64 0,.slice none 0 0,.int .i64 0,.int .i64 0,.string ⟨#[]⟩,.string ⟨#[]⟩,.int .i64 0] 118)).alloc (.cells #[.slice LA L.length Lc,.int .i64 i,.int .i64 0,.int .i64 0,.int .i64 0] 96)) (w.heap.size+1) 96 #[.slice LA L.length Lc,.int .i64 i,.int .i64 0,.int .i64 0,.int .i64 0]:=by
  have:=Bk.new (w.alloc (.cells #[.int .i64 0,.slice none 0 0,.int .i64 0,.int .i64 0,.string ⟨#[]⟩,.string ⟨#[]⟩,.int .i64 0] 118)) 96 #[.slice LA L.length Lc,.int .i64 i,.int .i64 0,.int .i64 0,.int .i64 0]
  rwa [hz0]at this
 have hb2:=hb0.trans (hb1.mono (by omega));have hs1:dh (w.heap.size+1) 96 [] L LA Lc ⟨i,0,0,0⟩ _:=⟨ks,(vg.out.below hb2).more (Nat.le_succ _)⟩
 have k1:=k0.old hb1;go_wp2_with fail
 refine(qm.out _ hs1).mono ?_;rintro r w2 ⟨cs,rfl,hE,hs2,hg2⟩;obtain⟨y0,y1,y2,y3,y4,y5,y6,rfl,hy⟩:=hE.seven;have hwl:w.heap.size<((w.alloc (.cells #[.int .i64 0,.slice none 0 0,.int .i64 0,.int .i64 0,.string ⟨#[]⟩,.string ⟨#[]⟩,.int .i64 0] 118)).alloc (.cells #[.slice LA L.length Lc,.int .i64 i,.int .i64 0,.int .i64 0,.int .i64 0] 96)).heap.size:=k1.lt;have k2:=k1.grown hg2 (aA (by omega))
 have hbw2:Below w.heap.size w w2:=hb2.trans (by
  exact⟨hg2.os,hg2.tape,hg2.output,hg2.size,fun q hq=>hg2.block q (Nat.lt_trans hq hwl) (aA (by omega))⟩)
 have hE2:=hE.more (B':=w.heap.size+1) (Nat.le_of_lt hs1.bk.lt);have hz2:=hs2.bk.lt;clear k0 hb0 hz0 hb1 ks hb2 hs1 k1 qm hg2 hE vg;have kq:Bk (w2.alloc (.cells #[.int .i64 0,.slice none 0 0,.int .i64 0,.int .i64 0,.string ⟨#[]⟩,.string ⟨#[]⟩,.int .i64 0] 118)) w2.heap.size 118 #[.int .i64 0,.slice none 0 0,.int .i64 0,.int .i64 0,.string ⟨#[]⟩,.string ⟨#[]⟩,.int .i64 0]:=Bk.new w2 118 _;have hbq:Below w2.heap.size w2 (w2.alloc (.cells #[.int .i64 0,.slice none 0 0,.int .i64 0,.int .i64 0,.string ⟨#[]⟩,.string ⟨#[]⟩,.int .i64 0] 118)):=zR.alloc zL _;generalize hbg:w.heap.size+1=b at *;go_upto_region 5 with(first|(refine ae bV rfl _ _ rfl rfl [y0,y1,y2,y3,y4,y5,y6] rfl kq rfl rfl hy ?_;intro wA pA))
 have jc:Below w2.heap.size w2 wA:=pA.below _ _ hbq zL;have hs3:=hs2.old jc;have k3:=k2.old jc;have HE3:=zH (hE2.old jc);have hbw3:=hbw2.trans (jc.mono hbw2.size);have kx:=pA.bk;have c1:=hs3.c1;have c3:=hs3.c3;have c4:=hs3.c4;clear hs2 k2 hE2 hbw2 jc pA kq hbq;generalize hgr:w.heap.size=gr at *;have hgb:gr≠b:=by omega
 by_cases h0:s5.err=0
 case neg=>
  have hR:=HR.out;rw[if_pos h0]at hR;have iV:((s5.err:Int)==0)=false:=zB (by omega)
  clear HR kx;go_upto_region 6 with fail
  refine wr 9 (some gr) [.is (.agg #[.int .i64 0, .slice none 0 0, .int .i64 0, .int .i64 0, .string ⟨#[]⟩, .string ⟨#[]⟩, .int .i64 0]),
    .is (.pointer (some ⟨b,0,none⟩)),
    .is (.pointer (some ⟨b,0,none⟩)),
    .is (.pointer (some ⟨b,4,none⟩)),
    .is (.int .i64 (s5.pos:Nat)),
    .is (.pointer (some ⟨b,0,none⟩)),
    .is (.pointer (some ⟨b,0,none⟩)),
    .is (.pointer (some ⟨b,3,none⟩)),
    .is (.int .i64 (s5.err:Nat)),
    .st (fun v W=>Bk W gr 118 #[.int .i64 0,.slice none 0 0,.int .i64 0,.int .i64 0,.string ⟨#[]⟩,.string ⟨#[]⟩,.int .i64 0]) (fun v w w2 hb h=>h.old hb),
    .is (.int .i64 0),
    .is (.int .i64 (s5.pos:Nat))] [0,9] (by kernel_rfl) (by kernel_rfl) (by kernel_rfl)
    (fun C=>.c (ah.z (rG _) [] [] (by kernel_rfl) fun qK qa wr hB qO qF hK=>?_) <|
    .c (ah.x (rG _) C rfl (fun _ _=>rfl)) <|
    .c (ah.x (rG _) C rfl (fun _ _=>rfl)) <|
    .c (ah.x (rG _) C rfl (fun _ _=>rfl)) <|
    .c (ah.x (rG _) C rfl (fun wr hG=>by
    have c4:=(hs3.bk.grown hG (aA (by omega))).cell 4;have c4:wr.cell? ⟨b,4,none⟩=some (.int .i64 (s5.pos:Nat)):=c4
    exact bW (lJ (by assumption)))) <|
    .c (ah.x (rG _) C rfl (fun _ _=>rfl)) <|
    .c (ah.x (rG _) C rfl (fun _ _=>rfl)) <|
    .c (ah.x (rG _) C rfl (fun _ _=>rfl)) <|
    .c (ah.x (rG _) C rfl (fun wr hG=>by
    have c3:wr.cell? ⟨b,3,none⟩=some (.int .i64 (s5.err:Nat)):=(hs3.bk.grown hG (aA (by omega))).cell 3
    exact bW (lJ (by assumption)))) <|
    .c (ah.g [0] [4] (by kernel_rfl) fun qK qa wr hB qO qF hK=>?_) <|
    .c (ah.x (rG _) C rfl (fun _ _=>rfl)) <|
    .c (ah.x (rG _) C rfl (fun _ _=>rfl)) <| .nil) ?_
  ·clear qO qF;go_simp;exact hK _ _ zR rfl
  ·have e4:qa.tmps[4]? =some (.pointer (some ⟨gr,0,none⟩)):=qO.1.trans rfl;have e30:=ay qF.1 rfl rfl;clear qO qF;exact zD bV _ _ rfl (qM (by assumption)) [.int .i64 0,.slice none 0 0,.int .i64 0,.int .i64 0,.string ⟨#[]⟩,.string ⟨#[]⟩,.int .i64 0] (qM (by assumption)) (k3.old hB) rfl rfl rfl (fun w9 p9=>hK _ _ ((below_grown hB _).trans p9.grown) (Nat.le_of_eq p9.size.symm) p9.bk)
  intro qx wr hG hR;have r9:(fun v W=>Bk W gr 118 #[.int .i64 0,.slice none 0 0,.int .i64 0,.int .i64 0,.string ⟨#[]⟩,.string ⟨#[]⟩,.int .i64 0]) (qx 9) wr:=hR 9 rfl rfl;clear hR;simp only[bJ,List.take_succ_cons,List.take_zero,List.drop_succ_cons,List.drop_zero,List.toList_toArray,List.length_cons,List.length_nil,Act.put,List.setIfInBounds_toArray,List.set_cons_zero,List.set_cons_succ];generalize qx 9=zn9 at r9⊢;have hgl:=k3.lt;clear k3;go_wp2
  obtain⟨u0,u1,u2,u3,u4,u5,u6⟩:=zc7 r9;refine bodyPost_ret (v:=.tuple #[.agg #[.int .i64 0,.slice none 0 0,.int .i64 0,.int .i64 0,.string ⟨#[]⟩,.string ⟨#[]⟩,.int .i64 0],.int .i64 0,.int .i64 (s5.pos:Nat),.int .i64 (s5.err:Nat)]) (by simp[results,Try.results55,go_sem,u0,u1,u2,u3,u4,u5,u6]) rfl ?_;subst hR;rw[hgr];exact⟨[.int .i64 0,.slice none 0 0,.int .i64 0,.int .i64 0,.string ⟨#[]⟩,.string ⟨#[]⟩,.int .i64 0],by simp,rfl,readB hbw3 hG hgl⟩
 case pos=>
  have hR:=HR.out;rw[if_neg (by simp[h0])]at hR;have iV:((s5.err:Int)==0)=true:=by rw[beq_iff_eq];omega
  have r0:wA.cell? ⟨w2.heap.size,0,none⟩=some y0:=kx.cell 0;have r1:wA.cell? ⟨w2.heap.size,1,none⟩=some y1:=kx.cell 1;have r2:wA.cell? ⟨w2.heap.size,2,none⟩=some y2:=kx.cell 2;have r3:wA.cell? ⟨w2.heap.size,3,none⟩=some y3:=kx.cell 3;have r4:wA.cell? ⟨w2.heap.size,4,none⟩=some y4:=kx.cell 4;have r5:wA.cell? ⟨w2.heap.size,5,none⟩=some y5:=kx.cell 5;have r6:wA.cell? ⟨w2.heap.size,6,none⟩=some y6:=kx.cell 6;clear HR kx;generalize w2.heap.size=gx at *;go_upto_region 7 with fail
  refine wr 5 (some gr) [.is (.agg #[y0, y1, y2, y3, y4, y5, y6]),
    .is (.pointer (some ⟨b,0,none⟩)),
    .is (.pointer (some ⟨b,0,none⟩)),
    .is (.pointer (some ⟨b,1,none⟩)),
    .is (.int .i64 (s5.i:Nat)),
    .st (fun v W=>Bk W gr 118 #[y0,y1,y2,y3,y4,y5,y6]) (fun v w w2 hb h=>h.old hb)] [0,5] (by kernel_rfl) (by kernel_rfl) (by kernel_rfl)
    (fun C=>.c (ah.z (rG _) [] [9] (by kernel_rfl) fun qK qa wr hB qO qF hK=>?_) <|
    .c (ah.x (rG _) C rfl (fun _ _=>rfl)) <|
    .c (ah.x (rG _) C rfl (fun _ _=>rfl)) <|
    .c (ah.x (rG _) C rfl (fun _ _=>rfl)) <|
    .c (ah.x (rG _) C rfl (fun wr hG=>by
    have c1:wr.cell? ⟨b,1,none⟩=some (.int .i64 (s5.i:Nat)):=(hs3.bk.grown hG (aA (by omega))).cell 1
    exact bW (lJ (by assumption)))) <|
    .c (ah.g [0] [4] (by kernel_rfl) fun qK qa wr hB qO qF hK=>?_) <| .nil) ?_
  ·have e9:qa.tmps[9]? =some (.pointer (some ⟨gx,0,none⟩)):=qO.1.trans rfl;clear qO qF;have hr0:=zE hB r0;have hr1:=zE hB r1;have hr2:=zE hB r2;have hr3:=zE hB r3;have hr4:=zE hB r4;have UD:=zE hB r5;have hr6:=zE hB r6;go_simp;exact hK _ _ zR rfl
  ·have e4:qa.tmps[4]? =some (.pointer (some ⟨gr,0,none⟩)):=qO.1.trans rfl;have e39:=ay qF.1 rfl rfl;clear qO qF;exact zD bV _ _ rfl (qM (by assumption)) [y0,y1,y2,y3,y4,y5,y6] (qM (by assumption)) (k3.old hB) rfl rfl hy (fun w9 p9=>hK _ _ ((below_grown hB _).trans p9.grown) (Nat.le_of_eq p9.size.symm) p9.bk)
  intro qx wr hG hR;have r5:(fun v W=>Bk W gr 118 #[y0,y1,y2,y3,y4,y5,y6]) (qx 5) wr:=hR 5 rfl rfl;clear hR;simp only[bJ,List.take_succ_cons,List.take_zero,List.drop_succ_cons,List.drop_zero,List.toList_toArray,List.length_cons,List.length_nil,Act.put,List.setIfInBounds_toArray,List.set_cons_zero,List.set_cons_succ];generalize qx 5=zn5 at r5⊢;have hgl:=k3.lt;clear k3;go_wp2
  obtain⟨u0,u1,u2,u3,u4,u5,u6⟩:=zc7 r5;refine bodyPost_ret (v:=.tuple #[.agg #[y0,y1,y2,y3,y4,y5,y6],.int .i64 (s5.i:Nat),.int .i64 0,.int .i64 0]) (by simp[results,Try.results55,go_sem,u0,u1,u2,u3,u4,u5,u6]) rfl ?_;subst hR;rw[hgr];exact⟨[y0,y1,y2,y3,y4,y5,y6],rfl,HE3.out.keep fun g hP hlt=>⟨by omega,hG.block g hlt (aA (by omega))⟩,readB hbw3 hG hgl⟩
structure zAx (w:World) (A:Option Addr) (j m:Nat):Prop where
 ex:∃(g:Nat) (d0 d1 d2 d3 d4 d5 d6:Value),A=some ⟨g,0,none⟩/\g<w.heap.size/\(∀(q:Nat) (u:Value),[d0,d1,d2,d3,d4,d5,d6][q]? =some u->w.cell? ⟨g,j*7+q,none⟩=some u)/\
  ∀W:World,Below w.heap.size w W->Calls Try.prog 59 #[.agg #[d0,d1,d2,d3,d4,d5,d6]] W fun r W'=>r=.returned (.int .i64 (m:Nat))/\Below W.heap.size W W'
theorem uI (c0 c2 c3 c4 c5 c6 : Value) (A : Option Addr) (n cc : Nat) (ns : List Nat) (hn : ns.length = n) (hn2 : n ≤ 2) (hs : 1 + ns.sum ≤ 1000000) (w : World) (hcall : ∀ j (hj : j < ns.length), zAx w A j ns[j]) :
  Calls Try.prog 59 #[.agg #[c0,.slice A n cc,c2,c3,c4,c5,c6]] w fun r w'=>r=.returned (.int .i64 ((1+ns.sum:Nat)))/\Below w.heap.size w w':=by
 have HC:=zH hcall;clear hcall
 go_enter Try.func59,Try.ntmps59
 have kb:=Bk.new w 118 #[c0,.slice A n cc,c2,c3,c4,c5,c6];have hb0:Below w.heap.size w (w.alloc (.cells #[c0,.slice A n cc,c2,c3,c4,c5,c6] 118)):=zR.alloc zL _;have x1:(w.alloc (.cells #[c0,.slice A n cc,c2,c3,c4,c5,c6] 118)).cell? ⟨w.heap.size,1,none⟩=some (.slice A n cc):=kb.cell 1;go_wp2
 generalize w.alloc (.cells #[c0,.slice A n cc,c2,c3,c4,c5,c6] 118)=w0 at *;have hbx:=kb.lt;have HX:=zH x1;have HB0:=zH hb0;clear kb x1 hb0
 go_loopw[3,8] (fun m i wr=>∃k:Nat,k<=n/\m=.int .i64 ((1+(ns.take k).sum:Nat))/\i=.int .i64 k/\Hid (Below w0.heap.size w0 wr)) (fun _ i _=>n-(intOf i).toNat)
 case atStart=>exact⟨0,Nat.zero_le _,by simp,rfl,zH zR⟩
 case round=>
  obtain⟨k,hk,rfl,rfl,HB⟩:=hrel;obtain⟨wo,rfl⟩:∃wo:World,wo=wr:=⟨_,rfl⟩
  by_cases hlt:k<n
  ·as_aux_lemma=>
   have hkl:k<ns.length:=by omega
   obtain⟨g,d0,d1,d2,d3,d4,d5,d6,rfl,hg,hc,hq⟩:=(HC.out k hkl).ex;have hsum:(ns.take (k+1)).sum=(ns.take k).sum+ns[k]:=by rw[List.take_succ_eq_append_getElem hkl,List.sum_append];simp
   have hle:(ns.take (k+1)).sum<=ns.sum:=by
    have h:=congrArg List.sum (List.take_append_drop (k+1) ns);rw[List.sum_append]at h;omega
   have lF:=HB0.out.trans (HB.out.mono HB0.out.size);have x1:=(aT HB.out w.heap.size 1 hbx).trans HX.out;have hcc:∀(q:Nat) (u:Value),[d0,d1,d2,d3,d4,d5,d6][q]? =some u->wo.cell? ⟨g,k*7+q,none⟩=some u:=fun q u h=>(aT lF g _ hg).trans (hc q u h)
   have r0:wo.cell? ⟨g,k*7,none⟩=some d0:=hcc 0 _ rfl;have r1:wo.cell? ⟨g,k*7+1,none⟩=some d1:=hcc 1 _ rfl;have r2:wo.cell? ⟨g,k*7+2,none⟩=some d2:=hcc 2 _ rfl;have r3:wo.cell? ⟨g,k*7+3,none⟩=some d3:=hcc 3 _ rfl;have r4:wo.cell? ⟨g,k*7+4,none⟩=some d4:=hcc 4 _ rfl;have r5:wo.cell? ⟨g,k*7+5,none⟩=some d5:=hcc 5 _ rfl;have r6:wo.cell? ⟨g,k*7+6,none⟩=some d6:=hcc 6 _ rfl;have HQ:=zH (hq wo lF);have Vl:=zH hsum;have hb1:1+(ns.take k).sum+ns[k]<=1000000:=by omega
   generalize ns[k]=m at *;generalize(ns.take k).sum=sk at *;clear hc hq hcc hsum hle lF;go_wp2_with fail
   refine HQ.out.mono ?_;rintro r w2 ⟨rfl,hb2⟩;have HB2:=zH (Below.trans HB.out (hb2.mono (Below.size HB.out)));clear HQ hb2 r0 r1 r2 r3 r4 r5 r6 x1;go_wp2
   go_roundw
   case rel=>exact⟨k+1,by omega,by rw[Vl.out];go_num,by go_num,HB2⟩
   case measure=>simp[intOf];omega
  ·as_aux_lemma=>
   obtain rfl:k=n:=by omega
   have hall:ns.take k=ns:=List.take_of_length_le (by omega);rw[hall];have lF:=zH (HB0.out.trans (HB.out.mono HB0.out.size));clear HB HB0;go_wp2
   go_ret
   exact⟨rfl,lF.out⟩
theorem su {P : Nat → Prop} : ∀ (e : ax) (cs : List Value) (w : World), kZ P w e cs → aB e ≤ 1000000 →
  Calls Try.prog 59 #[.agg cs.toArray] w fun r w'=>r=.returned (.int .i64 (aB e:Nat))/\Below w.heap.size w w'
 |.leaf op n sc nm a p,cs,w,h,hs=>by
  obtain rfl:cs=gK op n sc nm a p:=h;exact uI (.int .i64 op) _ _ _ _ _ none 0 0 [] rfl (by omega) (by simp) w (fun j hj=>absurd hj (by simp))
 |.un op x p,cs,w,h,hs=>by
  obtain⟨g,xs,rfl,hP,hk,hx⟩:=h;obtain⟨y0,y1,y2,y3,y4,y5,y6,rfl,hy⟩:=hx.seven;have hs:1+aB x<=1000000:=hs;refine uI (.int .i64 op) _ _ _ _ _ (some ⟨g,0,none⟩) 1 1 [aB x] rfl (by omega) (by simpa using hs) w (fun j hj=>?_)
  match j,hj with
  |0,_=>exact⟨g,y0,y1,y2,y3,y4,y5,y6,rfl,hk.lt,fun q u hu=>by rw[hk.cell];simpa using hu,fun W hW=>su x _ W (hx.old hW) (by omega)⟩
 |.bin op x y p,cs,w,h,hs=>by
  obtain⟨g,xs,ys,rfl,hP,hk,hx,hy⟩:=h;obtain⟨x0,x1,x2,x3,x4,x5,x6,rfl,_⟩:=hx.seven;obtain⟨y0,y1,y2,y3,y4,y5,y6,rfl,_⟩:=hy.seven;have hs:1+aB x+aB y<=1000000:=hs
  have:=uI (.int .i64 op) (.int .i64 0) (.int .i64 0) (.string ⟨#[]⟩) (.string ⟨#[]⟩) (.int .i64 p) (some ⟨g,0,none⟩) 2 2 [aB x,aB y] rfl (by omega) (by simp;omega) w (fun j hj=>by
   match j,hj with
   | 0, _ => exact ⟨g, x0, x1, x2, x3, x4, x5, x6, rfl, hk.lt, fun q u hu => by
     rw[hk.cell];have hq:q<7:=(List.getElem?_eq_some_iff.1 hu).1;rw[List.getElem?_toArray]
     rw[List.getElem?_append_left (by simp;omega),Nat.zero_mul,Nat.zero_add,hu],fun W hW=>su x _ W (hx.old hW) (by omega)⟩
   | 1, _ => exact ⟨g, y0, y1, y2, y3, y4, y5, y6, rfl, hk.lt, fun q u hu => by
     rw[hk.cell];rw[List.getElem?_toArray];rw[List.getElem?_append_right (by simp)]
     simpa using hu,fun W hW=>su y _ W (hy.old hW) (by omega)⟩)
  rw[show 1+[aB x,aB y].sum=aB (.bin op x y p) by simp[aB];omega]at this;exact this
section
variable (b:Nat) (t:TypeId) (rest:List Value) (L:List az) (LA:Option Addr) (Lc:Nat) (s:PS) (w:World)
theorem DI (e : Nat) (h : dh b t rest L LA Lc s w) (hi : s.i < L.length) (hL : L.length ≤ 4001) :
  Calls Try.prog 57 #[.pointer (some ⟨b,0,none⟩),.int .i64 e] w fun r w'=>r=.returned (.tuple #[])/\Steps b t rest L LA Lc (aS L e s) w w':=by
 have jR:=zH (kU b t rest L LA Lc s w e h hi hL);have c3:=h.c3
 by_cases h0:s.err=0
 case neg=>
  have iV:((s.err:Int)==0)=false:=zB (by omega)
  have hf:aS L e s=s:=by unfold aS;rw[if_neg h0]
  rw[hf];clear h0 jR hf
  go_enter Try.func57,Try.ntmps57
  go_wp2
  first|go_end0|refine bodyPost_end (v:=.tuple #[]) (by simp[results,Try.results57,go_sem]) rfl ?_
  exact⟨rfl,h,World.grownBy.refl _ _⟩
 case pos=>
  have iV:((s.err:Int)==0)=true:=by rw[h0];rfl
  clear h0 h
  go_enter Try.func57,Try.ntmps57
  go_wp2_with fail
  refine jR.out.mono ?_;rintro r w2 ⟨rfl,hs2⟩;go_wp2
  first|go_end0|refine bodyPost_end (v:=.tuple #[]) (by simp[results,Try.results57,go_sem]) rfl ?_
  exact⟨rfl,hs2⟩
theorem DJ (h : dh b t rest L LA Lc s w) (hi : s.i < L.length) (hL : L.length ≤ 4001) :
  Calls Try.prog 58 #[.pointer (some ⟨b,0,none⟩)] w fun r w'=>r=.returned (.string (bytes (dw L s).1))/\Steps b t rest L LA Lc (dw L s).2 w w':=by
 have jR:Hid (∀W:World,dh b t rest L LA Lc s W->Calls Try.prog 57 #[.pointer (some ⟨b,0,none⟩),.int .i64 13] W fun r w'=>r=.returned (.tuple #[])/\Steps b t rest L LA Lc (aS L 13 s) W w'):=zH fun W h=>DI b t rest L LA Lc s W 13 h hi hL
 obtain⟨tb,tq,hA,htb,hc⟩:=h.rd.elem (n:=5) vS (by omega) hi;have r0:w.cell? ⟨tb,tq+s.i*5,none⟩=some (.int .i64 L[s.i].kind):=hc 0 _ rfl;have r1:w.cell? ⟨tb,tq+s.i*5+1,none⟩=some (.string (bytes L[s.i].text)):=hc 1 _ rfl;have c0:=h.c0;have c1:=h.c1;have c3:=h.c3;have f1:=h.fr 1;rw[hA]at c0;have hbl:=h.bk.lt;unfold dw;rw[rX hi];have HS:=zH h
 by_cases h0:s.err=0
 case neg=>
  as_aux_lemma=>
  have hd:((s.err:Int) !=0)=true:=by rw[bne_iff_ne];omega
  rw[if_pos (.inl h0)];clear hc h hA r0 r1 c0 c1 f1
  go_enter Try.func58,Try.ntmps58
  go_upto_region 1 with fail
  go_quiet (fail)
  have hbq:=below_drewN (Below.refl w.heap.size w) nq;have HSQ:=zH (HS.out.old hbq);have Yv:=zH (below_grown hbq (some b));clear hbq;go_wp2_with fail
  refine(jR.out _ HSQ.out).mono ?_;rintro r w2 ⟨rfl,hs2⟩;go_wp2
  go_ret
  exact⟨rfl,hs2.st,Yv.out.trans hs2.grown⟩
 case pos=>
 have hd:((s.err:Int) !=0)=false:=by rw[h0];rfl
 by_cases hk:L[s.i].kind=2
 case neg=>
  as_aux_lemma=>
  have QM:((L[s.i].kind:Int) !=2)=true:=by rw[bne_iff_ne];omega
  rw[if_pos (.inr hk)];generalize L[s.i]=T at *;generalize hii:s.i=i at *;clear hc h hA f1 h0
  go_enter Try.func58,Try.ntmps58
  go_upto_region 1 with fail
  go_quiet (fail)
  have hbq:=below_drewN (Below.refl w.heap.size w) nq;have HSQ:=zH (HS.out.old hbq);have Yv:=zH (below_grown hbq (some b));clear hbq;go_wp2_with fail
  refine(jR.out _ HSQ.out).mono ?_;rintro r w2 ⟨rfl,hs2⟩;go_wp2
  go_ret
  exact⟨rfl,hs2.st,Yv.out.trans hs2.grown⟩
 case pos=>
  as_aux_lemma=>
  have QM:((L[s.i].kind:Int) !=2)=false:=by rw[hk];rfl
  rw[if_neg (by omega)];have HHA:=zH hA;have HR1:=zH r1;clear hc h hA jR
  go_enter Try.func58,Try.ntmps58
  go_upto_region 1 with fail
  go_quiet (fail)
  have hbq:=below_drewN (Below.refl w.heap.size w) nq;have hsq:=HS.out.old hbq;have r1:=(aT hbq tb (tq+s.i*5+1) (by omega)).trans HR1.out;have Yv:=zH (below_grown hbq (some b));clear hbq c0 c1 c3 r0 f1;generalize w.drewN nq=wq at *;have c1:=hsq.c1;have f1:=hsq.fr 1;have hn:=step_next b t rest L LA Lc s wq hsq
  have hn1:(wq.setCell ⟨b,1,none⟩ (.int .i64 ((s.i:Int)+1))).cell? ⟨b,1,none⟩=some (.int .i64 ((s.i:Int)+1)):=by
   have:=hn.st.c1;unfold aI at this
   simpa using this
  have hn0:(wq.setCell ⟨b,1,none⟩ (.int .i64 ((s.i:Int)+1))).cell? ⟨b,0,none⟩=some (.slice (some ⟨tb,tq,none⟩) L.length Lc):=by
   have:=hn.st.c0
   rwa [HHA.out]at this
  have q1:(wq.setCell ⟨b,1,none⟩ (.int .i64 ((s.i:Int)+1))).cell? ⟨tb,tq+s.i*5+1,none⟩=some (.string (bytes L[s.i].text)):=by
   have:=((Below.refl b wq).setCell (p:=⟨b,1,none⟩) (Nat.le_refl b) (.int .i64 ((s.i:Int)+1)))
   exact(aT this tb _ htb).trans r1
  have HN:=zH hn;clear hn r1 HS HR1 hsq;go_upto_region 5 with fail
  clear c1 f1;generalize wq.setCell ⟨b,1,none⟩ (.int .i64 ((s.i:Int)+1))=wr at *
  go_quiet (fail)
  go_wp2
  go_ret
  exact⟨rfl,HN.out.st.old (below_drewN zR nq),(Yv.out.trans HN.out.grown).trans (below_grown (below_drewN zR nq) (some b))⟩
end
def uJ:ax->Prop
 |.leaf op ..=>op≠13
 |.un op x _=>op≠13/\uJ x
 |.bin _ x y _=>uJ x/\uJ y
def jq (P:Nat->Prop) (w:World):List ax->List (List Value)->Prop
 |[],[]=>True
 |e::es,cs::css=>kZ P w e cs/\jq P w es css
 |_,_=>False
theorem jq.app {P:Nat->Prop} {w:World}:∀{es fs:List ax} {css dss:List (List Value)},jq P w es css->jq P w fs dss->jq P w (es++fs) (css++dss)
 |[],_,[],_,_,h=>h
 |e::es,_,cs::css,_,h,h2=>⟨h.1,jq.app h.2 h2⟩
 |[],_,_::_,_,h,_=>h.elim
 |_::_,_,[],_,h,_=>h.elim
theorem jq.keep {P P':Nat->Prop} {w w':World} (hk:∀g,P g->g<w.heap.size->P' g/\w'.heap[g]? =w.heap[g]?):∀{es:List ax} {css:List (List Value)},jq P w es css->jq P' w' es css
 |[],[],_=>trivial
 |_::_,_::_,h=>⟨h.1.keep hk,jq.keep hk h.2⟩
 |[],_::_,h=>h.elim
 |_::_,[],h=>h.elim
theorem jq.len {P:Nat->Prop} {w:World}:∀{es:List ax} {css:List (List Value)},jq P w es css->es.length=css.length/\css.flatten.length=css.length*7/\∀u∈css.flatten,u.oneCell'=true
 |[],[],_=>⟨rfl,rfl,by simp⟩
 |e::es,cs::css,h=>by
  obtain⟨h1,h2,h3⟩:=h.2.len;obtain⟨c0,c1,c2,c3,c4,c5,c6,rfl,hc⟩:=h.1.seven;refine⟨by simp[h1],by rw[List.flatten_cons,List.length_append,h2,List.length_cons];simp;omega,fun u hu=>?_⟩;rw[List.flatten_cons,List.mem_append]at hu;rcases hu with hu|hu
  ·exact List.all_eq_true.1 hc u hu
  ·exact h3 u hu
 |[],_::_,h=>h.elim
 |_::_,[],h=>h.elim
theorem oV:∀e:ax,(jI e).length<=aB e
 |.leaf ..=>Nat.le_refl _
 |.un _ x _=>by show 1<=1+aB x;omega
 |.bin op x y p=>by
  have hx:=oV x;have hy:=oV y;unfold jI aB
  split
  ·rw[List.length_append];omega
  ·simp;omega
def MI (P:Nat->Prop) (e:ax) (w:World) (r:Ending) (w':World):Prop:=
 ∃(v:Value) (css:List (List Value)),r=.returned v/\w'.ownsRow w.heap.size 118 7 v css.length css.flatten/\jq P w (jI e) css/\Below w.heap.size w w'
theorem Vm (w : World) (cur : Array Value) (n : Nat) {base size : Nat} {e : TypeId} (hb : base ≤ w.heap.size) (hm : n ≤ maxLen) (hs : cur.size = n * size) :
  (w.alloc (.cells cur e)).ownsRow base e size (.slice (some ⟨w.heap.size,0,none⟩) n n) n cur.toList:=
 ⟨by simpa using hs,.inr ⟨w.heap.size,n,cur,rfl,hb,heap_alloc_new w _,Nat.le_refl _,hm,hs,by rw[List.take_of_length_le (by simp[hs])]⟩⟩
theorem AV (op : Nat) (hne : op ≠ 13) (c1 c2 c3 c4 c5 c6 : Value) (w : World) :
  Calls Try.prog 56 #[.agg #[.int .i64 op,c1,c2,c3,c4,c5,c6]] w fun r w'=>∃v,r=.returned v/\w'.ownsRow w.heap.size 118 7 v 1 [.int .i64 op,c1,c2,c3,c4,c5,c6]/\Below w.heap.size w w':=by
 have hd:((op:Int) !=13)=true:=by rw[bne_iff_ne];omega
 go_enter Try.func56,Try.ntmps56
 have kb:=Bk.new w 118 #[.int .i64 op,c1,c2,c3,c4,c5,c6];have hb0:Below w.heap.size w (w.alloc (.cells #[.int .i64 op,c1,c2,c3,c4,c5,c6] 118)):=zR.alloc zL _;have x0:(w.alloc (.cells #[.int .i64 op,c1,c2,c3,c4,c5,c6] 118)).cell? ⟨w.heap.size,0,none⟩=some (.int .i64 op):=kb.cell 0;have x1:(w.alloc (.cells #[.int .i64 op,c1,c2,c3,c4,c5,c6] 118)).cell? ⟨w.heap.size,1,none⟩=some c1:=kb.cell 1;have x2:(w.alloc (.cells #[.int .i64 op,c1,c2,c3,c4,c5,c6] 118)).cell? ⟨w.heap.size,2,none⟩=some c2:=kb.cell 2;have x3:(w.alloc (.cells #[.int .i64 op,c1,c2,c3,c4,c5,c6] 118)).cell? ⟨w.heap.size,3,none⟩=some c3:=kb.cell 3;have x4:(w.alloc (.cells #[.int .i64 op,c1,c2,c3,c4,c5,c6] 118)).cell? ⟨w.heap.size,4,none⟩=some c4:=kb.cell 4;have x5:(w.alloc (.cells #[.int .i64 op,c1,c2,c3,c4,c5,c6] 118)).cell? ⟨w.heap.size,5,none⟩=some c5:=kb.cell 5;have x6:(w.alloc (.cells #[.int .i64 op,c1,c2,c3,c4,c5,c6] 118)).cell? ⟨w.heap.size,6,none⟩=some c6:=kb.cell 6;go_upto_region 1 with fail
 generalize w.alloc (.cells #[.int .i64 op,c1,c2,c3,c4,c5,c6] 118)=w0 at *;go_wp2_with (first|(refine jL rfl _ rfl rfl ?_))
 go_ret
 exact⟨_,rfl,Vm w0 #[.int .i64 op,c1,c2,c3,c4,c5,c6] 1 hb0.size (by unfold maxLen;omega) rfl,hb0.alloc hb0.size _⟩
end Go.Proofs.Ytbjnhllkdilpfaa
