/- Part 45 of the proof. No conditions. -/
import Derived.Test.YtbjnhllkdilpfaaZc41
namespace Go.Proofs.Ytbjnhllkdilpfaa
open Go.RowKit
set_option maxRecDepth 100000
set_option maxHeartbeats 16000000
set_option linter.unusedVariables false
set_option linter.unusedSimpArgs false
def Ec (x y:Nat×bQ):Prop:=x.1<y.1
structure Lj (l:List (Nat×bQ)) (a j i b:Nat):Prop where
 one:∀p u v,a<=p->p<=i->p≠j->l[p]? =some u->l[j]? =some v->u.1<v.1
 sp:Split Ec l a (i+1) b
 st:fG Ec l (i+1) b
theorem Lj.start {l:List (Nat×bQ)} {a i b:Nat} (h:Split Ec l a i b) (hs:fG Ec l i b) (hib:i<b):Lj l a i i b:=
 ⟨fun p u v h1 h2 h3 hu hv=>h p i u v h1 (by omega) zL hib hu hv,fun p q u v h1 h2 h3 h4 hu hv=>by
  by_cases hp:p<i
  ·exact h p q u v h1 hp (by omega) h4 hu hv
  ·exact hs p q u v (by omega) (by omega) h4 hu hv,hs.sub (by omega) zL⟩
theorem Lj.step {l:List (Nat×bQ)} {a j i b:Nat} (h:Lj l a j i b) (hj:a<j) (hji:j<=i) (hlen:i<l.length):Lj (lG l j (j-1)) a (j-1) i b:=by
 have g:=fun k=>kH (l:=l) (i:=j) (j:=j-1) (by omega) (by omega) k
 refine⟨fun p u v h1 h2 h3 hu hv=>?_,?_,h.st.same fun k h1 h2=>?_⟩
 ·rw[g]at hu hv;rw[if_pos rfl]at hv;rw[if_neg h3]at hu
  by_cases hp:p=j
  ·rw[if_pos hp]at hu;exact h.one (j-1) u v (by omega) (by omega) (by omega) hu hv
  ·rw[if_neg hp]at hu;exact h.one p u v h1 h2 hp hu hv
 ·exact h.sp.moved (kY (by omega) (by omega) (by omega) (by omega) (by omega) (by omega)) (bH.refl _ _ _)
 ·rw[g,if_neg (by omega),if_neg (by omega)]
def TW (ms:List (Nat×bQ)):Prop:=∀x∈ms,x.2.id<=9223372036854775807
theorem TW.of {ms ms':List (Nat×bQ)} (h:TW ms) {a b:Nat} (hm:bH ms ms' a b):TW ms':=fun x hx=>h x (hm.perm.mem_iff.1 hx)
section
set_option maxHeartbeats 4000000
theorem WJ {d : Nat} {S S' : Nat → Prop} {x y : bQ} {xs ys : List Value} {w : World} (hx : uB d S x xs w) (hy : uB d S' y ys w) (h1 : x.id ≤ 9223372036854775807) (h2 : y.id ≤ 9223372036854775807) :
  Calls Try.prog 27 #[.agg xs.toArray,.agg ys.toArray] w fun r w'=>r=.returned (.int .i64 ((x.id:Int)-y.id))/\Below w.heap.size w w':=by
 obtain⟨v,rfl,_⟩:=hx;obtain⟨v',rfl,_⟩:=hy;have x0:=(Bk.new w 28 #[.int .i64 x.id,.int .i64 x.window,v]).alloc (.cells #[.int .i64 y.id,.int .i64 y.window,v'] 28);have x1:=Bk.newAt (w:=w.alloc (.cells #[.int .i64 x.id,.int .i64 x.window,v] 28)) (g:=w.heap.size+1) (by simp) 28 #[.int .i64 y.id,.int .i64 y.window,v'];have hbW:Below w.heap.size w ((w.alloc (.cells #[.int .i64 x.id,.int .i64 x.window,v] 28)).alloc (.cells #[.int .i64 y.id,.int .i64 y.window,v'] 28)):=(ba w _).trans ((ba _ _).mono (by simp))
 go_enter Try.func27,Try.ntmps27
 have a0:=x0.cell 0;have b0:=x1.cell 0;clear x0 x1;have hw:IntKind.i64.wrap ((x.id:Int)-y.id)=(x.id:Int)-y.id:=IntWalk.i64_in _ (by omega);go_wp2
 go_ret
 exact⟨rfl,hbW⟩
end
theorem InsB.step2 {l:List (Nat×bQ)} {a j i:Nat} (h:Ins gX l a j i) (hj:a<j) (hji:j<=i) (hlen:i<l.length) {x y:Nat×bQ} (hx:l[j]? =some x) (hy:l[j-1]? =some y) (hlt:gX x y=true):Ins gX (lG l j (j-1)) a (j-1) i:=by
 obtain⟨p,rfl⟩:∃p,j=p+1:=⟨j-1,by omega⟩
 rw[Nat.add_sub_cancel]at hy⊢;refine h.step sZ.asym (by omega) hji hlen fun u v hu hv=>?_
 rw[hx]at hu;rw[hy]at hv;injection hu with hu;injection hv with hv
 subst hu;subst hv;exact hlt
section
set_option maxRecDepth 100000
set_option maxHeartbeats 8000000
theorem insS {d : Nat} {S : Nat → Prop} {base g c n a b : Nat} {ms : List (Nat × bQ)} {w : World} (h : oH d S base g c n ms w) (hid : TW ms) (hst : fG Ec ms a b) (hab : a ≤ b) (hbn : b ≤ n) (hn : n ≤ 1000000000000) :
  Calls Try.prog 49 #[.slice (some ⟨g,0,none⟩) n c,.int .i64 a,.int .i64 b,.func (.func 27) #[] #[]] w fun r w'=>r=.returned (.tuple #[])/\∃ms',bH ms ms' a b/\fG (Le gX) ms' a b/\oH d S base g c n ms' w'/\w.grownBy w' (some g):=by
 have HR:=zH (And.intro h (And.intro hid hst));have hlm:=h.dQ;clear h hid hst
 go_enter Try.func49,Try.ntmps49
 go_wp2
 go_loopw[8] (fun o wr=>∃(i:Nat) (jQ:List (Nat×bQ)),a+1<=i/\(i<=b\/i=a+1)/\o=.int .i64 i/\Hid (bH ms jQ a b/\fG (Le gX) jQ a i/\oH d S base g c n jQ wr/\w.grownBy wr (some g)/\(i<=b->Split Ec jQ a i b)/\fG Ec jQ i b)) (fun o _=>b+1-(intOf o).toNat)
 case atStart=>exact⟨a+1,ms,by omega,by omega,by go_num,zH ⟨bH.refl _ _ _,fG.nil (by omega),HR.out.1,World.grownBy.refl _ _,fun _ p q u v h1 h2 h3 h4 hu hv=>HR.out.2.2 p q u v h1 (by omega) h4 hu hv,HR.out.2.2.sub (by omega) zL⟩⟩
 case round=>
  obtain⟨W0,rfl⟩:∃z:World,z=wr:=⟨_,rfl⟩
  obtain⟨i,jQ,hai,hib,rfl,hI⟩:=hrel
  by_cases hlt:i<b
  ·go_wp2
   go_loopw[9] (fun o wi=>∃(j:Nat) (zN:List (Nat×bQ)),a<=j/\j<=i/\o=.int .i64 j/\Hid (bH ms zN a b/\Ins gX zN a j i/\oH d S base g c n zN wi/\w.grownBy wi (some g)/\Lj zN a j i b)) (fun o _=>(intOf o).toNat)
   case atStart=>exact⟨i,jQ,by omega,Nat.le_refl _,rfl,zH ⟨hI.out.1,Ins.start hI.out.2.1,hI.out.2.2.1,hI.out.2.2.2.1,Lj.start (hI.out.2.2.2.2.1 (by omega)) hI.out.2.2.2.2.2 hlt⟩⟩
   case round=>
    clear hI hib;obtain⟨W,rfl⟩:∃z:World,z=wr:=⟨_,rfl⟩
    obtain⟨j,zN,hja,hji,rfl,hJ⟩:=hrel;have hl3:=hJ.out.2.2.1.dQ
    by_cases hj:a<j
    ·have hj3:j<zN.length:=by omega
     have hp3:j-1<zN.length:=by omega
     obtain⟨g',xs,hA,_,hgl,xw,Ea⟩:=hJ.out.2.2.1.elem hj3;injection hA with hA
     injection hA with hA
     subst hA;obtain⟨g',ys,hA,_,_,xy,Eb⟩:=hJ.out.2.2.1.elem hp3;injection hA with hA
     injection hA with hA
     subst hA;have hx:=List.getElem?_eq_getElem hj3;have hy:=List.getElem?_eq_getElem hp3;have hxi:=HR.out.2.1.of hJ.out.1 _ (List.getElem_mem hj3);have hyi:=HR.out.2.1.of hJ.out.1 _ (List.getElem_mem hp3);generalize zN[j]=x at *;generalize zN[j-1]=y at *;obtain⟨lb,hlb⟩:∃z,gX x y=z:=⟨_,rfl⟩
     have hcode:decide ((x.2.id:Int)-y.2.id<0)=lb:=by
      rw[<-hlb,xe (hJ.out.2.2.2.2.one (j-1) y x (by omega) (by omega) (by omega) hy hx)]
      apply decide_eq_decide.2
      omega
     have FD:=zH hcode;have HX:=zH (And.intro hx (And.intro hy hlb));have HS:=zH (And.intro xw (And.intro xy (And.intro Ea (And.intro Eb (And.intro hxi hyi)))));have hlx:=CK.len xw;have Ji:=CK.len xy;have hjn:j<n:=by omega
     have hpn:j-1<n:=by omega
     clear hx hy hlb hcode xw xy Ea Eb hxi hyi;go_upto_region 4 with fail
     refine wx (fun _=>false) [.is (.int .i64 (j:Nat)),.is (.int .i64 (a:Nat)),.is (.bool true),.is (.bool true),.is (.func (.func 27) #[] #[]),.is (.slice (some ⟨g,0,none⟩) n c),.is (.int .i64 (j:Nat)),.is (.pointer (some ⟨g,j*3,none⟩)),.is (.agg xs.toArray),
      .is (.slice (some ⟨g,0,none⟩) n c),.is (.int .i64 (j:Nat)),.is (.int .i64 ((j-1:Nat):Int)),.is (.pointer (some ⟨g,(j-1)*3,none⟩)),.is (.agg ys.toArray),.is (.int .i64 ((x.2.id:Int)-y.2.id)),.is (.bool lb),.is (.bool lb)] [2,7,8,11,12,13,14,15,16] (by kernel_rfl) (by kernel_rfl) (by kernel_rfl)
      (fun C=>.c (px C rfl (fun _ _=>rfl)) <| .c (px C rfl (fun _ _=>rfl)) <| .c (pz [0,1] [] (by kernel_rfl) fun qK qa wr hB qO qF hK=>?_) <| .c (px C rfl (fun _ _=>rfl)) <|
       .c (px C rfl (fun _ _=>rfl)) <| .c (px C rfl (fun _ _=>rfl)) <| .c (px C rfl (fun _ _=>rfl)) <| .c (pz [5,6] [] (by kernel_rfl) fun qK qa wr hB qO qF hK=>?_) <| .c (pz [7] [] (by kernel_rfl) fun qK qa wr hB qO qF hK=>?_) <|
       .c (px C rfl (fun _ _=>rfl)) <| .c (px C rfl (fun _ _=>rfl)) <| .c (pz [10] [] (by kernel_rfl) fun qK qa wr hB qO qF hK=>?_) <| .c (pz [9,11] [] (by kernel_rfl) fun qK qa wr hB qO qF hK=>?_) <| .c (pz [12] [] (by kernel_rfl) fun qK qa wr hB qO qF hK=>?_) <|
       .c (pz [4,8,13] [] (by kernel_rfl) fun qK qa wr hB qO qF hK=>?_) <| .c (pz [14] [] (by kernel_rfl) fun qK qa wr hB qO qF hK=>?_) <| .c (pz [3,15] [] (by kernel_rfl) fun qK qa wr hB qO qF hK=>?_) .nil) ?_
     ·exact TS _ _ _ _ rfl (ev (ay qF.1 rfl rfl)) (ev (ay qF.2.1 rfl rfl)) (by simp;omega) (hK _ _ zR rfl)
     ·exact gu dH.1 _ _ rfl (ev (ay qF.1 rfl rfl)) (ev (ay qF.2.1 rfl rfl)) hjn (hK _ _ zR rfl)
     ·exact fQ dH _ rfl (ev (ay qF.1 rfl rfl)) xs hlx (fun i u hu=>bc hB (HS.out.2.2.1 i u hu)) (hK _ _ zR rfl)
     ·exact yl _ _ _ _ rfl (ev (ay qF.1 rfl rfl)) rfl (by omega) (by omega) (by omega) (hK _ _ zR rfl)
     ·exact gu dH.1 _ _ rfl (ev (ay qF.1 rfl rfl)) (ev (ay qF.2.1 rfl rfl)) hpn (hK _ _ zR rfl)
     ·exact fQ dH _ rfl (ev (ay qF.1 rfl rfl)) ys Ji (fun i u hu=>bc hB (HS.out.2.2.2.1 i u hu)) (hK _ _ zR rfl)
     ·have e22:=ay qF.1 rfl rfl;have e26:=ay qF.2.1 rfl rfl;have e31:=ay qF.2.2.1 rfl rfl;clear qO qF;go_simp
      go_at_call 27
      refine(WJ (CK.keep (P:=Nq d) (n:=3) (fE.old hB) HS.out.1) (CK.keep (P:=Nq d) (n:=3) (fE.old hB) HS.out.2.1) HS.out.2.2.2.2.1 HS.out.2.2.2.2.2).mono ?_;rintro r w2 ⟨rfl,hb2⟩;exact hK _ _ hb2 rfl
     ·exact Ff _ _ _ _ rfl (ev (ay qF.1 rfl rfl)) rfl FD.out (hK _ _ zR rfl)
     ·exact WI _ _ _ rfl (ev (ay qF.1 rfl rfl)) (ev (ay qF.2.1 rfl rfl)) rfl (hK _ _ zR rfl)
     intro qx W5 hB hR hS;clear hR hS;simp only[bJ,List.length,List.take,List.drop,List.toList_toArray];refine zn ?_
     go_frame
     have yT:=zH (And.intro (hJ.out.2.2.1.old hB) (hJ.out.2.2.2.1.trans (below_grown hB _)));have UL:=zH (And.intro (CK.keep (P:=Nq d) (n:=3) (fE.old hB) HS.out.1) (And.intro (CK.keep (P:=Nq d) (n:=3) (fE.old hB) HS.out.2.1) (And.intro (fun i u hu=>bc hB (HS.out.2.2.1 i u hu)) (fun i u hu=>bc hB (HS.out.2.2.2.1 i u hu)))));cases lb
     ·have HST:Hid (j=a\/∃k,j=k+1/\a<=k/\∀x y,zN[k+1]? =some x->zN[k]? =some y->gX x y=false):=zH (by
       obtain⟨p,rfl⟩:∃p,j=p+1:=⟨j-1,by omega⟩
       refine .inr ⟨p,rfl,by omega,fun u v hu hv=>?_⟩;have h1:=HX.out.1;have h2:=HX.out.2.1;rw[Nat.add_sub_cancel,hv]at h2;rw[hu]at h1;injection h1 with h1;injection h2 with h2
       subst h1;subst h2;exact HX.out.2.2)
      clear hB HS FD;go_wp2
      go_roundw
      case rel=>exact⟨i+1,zN,by omega,by omega,by go_num,zH ⟨hJ.out.1,hJ.out.2.1.done sZ.O4 hja hji (by omega) HST.out,yT.out.1,yT.out.2,fun _=>hJ.out.2.2.2.2.sp,hJ.out.2.2.2.2.st⟩⟩
      case measure=>simp[intOf];omega
     ·have HN:=zH (And.intro (hJ.out.1.trans (kY (a:=a) (b:=b) (i:=j) (j:=j-1) (by omega) (by omega) (by omega) (by omega) (by omega) (by omega))) (And.intro (InsB.step2 hJ.out.2.1 hj hji (by omega) HX.out.1 HX.out.2.1 HX.out.2.2) (hJ.out.2.2.2.2.step hj hji (by omega))));have hsl:=zH (mG HX.out.1 HX.out.2.1);clear HS FD hB;go_upto_region 6 with fail
      refine Go.Proofs.Ytbjnhllkdilpfaa.wr 15 (some g) [.is (.slice (some ⟨g,0,none⟩) n c),.is (.int .i64 (j:Nat)),.is (.slice (some ⟨g,0,none⟩) n c),.is (.int .i64 (j:Nat)),.is (.int .i64 ((j-1:Nat):Int)),.is (.slice (some ⟨g,0,none⟩) n c),.is (.int .i64 (j:Nat)),.is (.int .i64 ((j-1:Nat):Int)),
       .is (.pointer (some ⟨g,(j-1)*3,none⟩)),.is (.agg ys.toArray),.is (.slice (some ⟨g,0,none⟩) n c),.is (.int .i64 (j:Nat)),.is (.pointer (some ⟨g,j*3,none⟩)),.is (.agg xs.toArray),.is (.pointer (some ⟨g,j*3,none⟩)),
       .st (fun v w=>oH d S base g c n (zN.set j y) w) (fun _ _ _ hb h=>h.old hb)] [4,7,8,9,12,13,14,15] (by kernel_rfl) (by kernel_rfl) (by kernel_rfl)
       (fun C=>.c (ah.x (rG _) C rfl (fun _ _=>rfl)) <| .c (ah.x (rG _) C rfl (fun _ _=>rfl)) <| .c (ah.x (rG _) C rfl (fun _ _=>rfl)) <| .c (ah.x (rG _) C rfl (fun _ _=>rfl)) <| .c (ah.a (rG _) [3] [] (by kernel_rfl) fun qK qa wr hG qO qF hK=>?_) <|
        .c (ah.x (rG _) C rfl (fun _ _=>rfl)) <| .c (ah.x (rG _) C rfl (fun _ _=>rfl)) <| .c (ah.z (rG _) [6] [] (by kernel_rfl) fun qK qa wr hB qO qF hK=>?_) <| .c (ah.z (rG _) [5,7] [] (by kernel_rfl) fun qK qa wr hB qO qF hK=>?_) <| .c (ah.z (rG _) [8] [] (by kernel_rfl) fun qK qa wr hB qO qF hK=>?_) <|
        .c (ah.x (rG _) C rfl (fun _ _=>rfl)) <| .c (ah.x (rG _) C rfl (fun _ _=>rfl)) <| .c (ah.z (rG _) [10,11] [] (by kernel_rfl) fun qK qa wr hB qO qF hK=>?_) <| .c (ah.z (rG _) [12] [] (by kernel_rfl) fun qK qa wr hB qO qF hK=>?_) <|
        .c (ah.z (rG _) [0,1] [] (by kernel_rfl) fun qK qa wr hB qO qF hK=>?_) <| .c (ah.g [14,9] [] (by kernel_rfl) fun qK qa wr hB qO qF hK=>?_) .nil) ?_
      ·obtain⟨qb,qF⟩:=qF;exact yl _ _ _ _ rfl (ev (Ee qF.1 rfl rfl)) rfl (by omega) (by omega) (by omega) (hK _ zR)
      ·exact yl _ _ _ _ rfl (ev (ay qF.1 rfl rfl)) rfl (by omega) (by omega) (by omega) (hK _ _ zR rfl)
      ·exact gu dH.1 _ _ rfl (ev (ay qF.1 rfl rfl)) (ev (ay qF.2.1 rfl rfl)) hpn (hK _ _ zR rfl)
      ·exact fQ dH _ rfl (ev (ay qF.1 rfl rfl)) ys Ji (fun i u hu=>bc hB (UL.out.2.2.2 i u hu)) (hK _ _ zR rfl)
      ·exact gu dH.1 _ _ rfl (ev (ay qF.1 rfl rfl)) (ev (ay qF.2.1 rfl rfl)) hjn (hK _ _ zR rfl)
      ·exact fQ dH _ rfl (ev (ay qF.1 rfl rfl)) xs hlx (fun i u hu=>bc hB (UL.out.2.2.1 i u hu)) (hK _ _ zR rfl)
      ·exact gu dH.1 _ _ rfl (ev (ay qF.1 rfl rfl)) (ev (ay qF.2.1 rfl rfl)) hjn (hK _ _ zR rfl)
      ·refine vH dH _ _ rfl (yT.out.1.old hB) (ev (ay qF.1 rfl rfl)) ys (ev (ay qF.2.1 rfl rfl)) (k:=j) hj3 y (CK.keep (fE.old hB) UL.out.2.1) ?_;intro w3 h3 _ hg3 hs3;exact hK undef _ (World.grownBy.trans (below_grown hB _) hg3) (Nat.le_of_eq hs3.symm) h3
      intro qx W6 hG hR;have h15:=hR 15 rfl rfl;clear hR;simp only[bJ,List.length,List.take,List.drop,List.toList_toArray]
      go_frame
      have Lh:=zH (CK.keep (n:=3) (fE.fJ hG (fun b hb=>hb.2)) UL.out.1);have hp4:j-1<(zN.set j y).length:=by rw[List.length_set];exact hp3
      go_wp2_with (first|(refine jk dH rfl _ _ rfl h15 rfl xs rfl (k:=j-1) hp4 x Lh.out ?_;intro w9 p9 _ g9 z9))
      go_roundw
      case rel=>exact⟨j-1,lG zN j (j-1),by omega,by omega,by go_num,zH ⟨HN.out.1,HN.out.2.1,by rw[hsl.out];exact p9,yT.out.2.trans (hG.trans g9),HN.out.2.2⟩⟩
      case measure=>simp[intOf];omega
    ·obtain rfl:j=a:=by omega
     go_upto_region 4 with fail
     refine wx (fun _=>false) [.is (.int .i64 (j:Nat)),.is (.int .i64 (j:Nat)),.is (.bool false),.is (.bool false),.is undef,.is undef,.is undef,.is undef,.is undef,
      .is undef,.is undef,.is undef,.is undef,.is undef,.is undef,.is undef,.is (.bool false)] [2,4,5,6,7,8,9,10,11,12,13,14,15] (by kernel_rfl) (by kernel_rfl) (by kernel_rfl)
      (fun C=>.c (px C rfl (fun _ _=>rfl)) <| .c (px C rfl (fun _ _=>rfl)) <| .c (pz [0,1] [] (by kernel_rfl) fun qK qa wr hB qO qF hK=>?_) <| .c (px C rfl (fun _ _=>rfl)) <|
       .c (po (X:=undef) [] [] 3 true rfl rfl rfl (by kernel_rfl) fun hc=>by cases hc) <| .c (po (X:=undef) [] [] 3 true rfl rfl rfl (by kernel_rfl) fun hc=>by cases hc) <| .c (po (X:=undef) [] [] 3 true rfl rfl rfl (by kernel_rfl) fun hc=>by cases hc) <| .c (po (X:=undef) [] [] 3 true rfl rfl rfl (by kernel_rfl) fun hc=>by cases hc) <| .c (po (X:=undef) [] [] 3 true rfl rfl rfl (by kernel_rfl) fun hc=>by cases hc) <| .c (po (X:=undef) [] [] 3 true rfl rfl rfl (by kernel_rfl) fun hc=>by cases hc) <| .c (po (X:=undef) [] [] 3 true rfl rfl rfl (by kernel_rfl) fun hc=>by cases hc) <| .c (po (X:=undef) [] [] 3 true rfl rfl rfl (by kernel_rfl) fun hc=>by cases hc) <| .c (po (X:=undef) [] [] 3 true rfl rfl rfl (by kernel_rfl) fun hc=>by cases hc) <| .c (po (X:=undef) [] [] 3 true rfl rfl rfl (by kernel_rfl) fun hc=>by cases hc) <| .c (po (X:=undef) [] [] 3 true rfl rfl rfl (by kernel_rfl) fun hc=>by cases hc) <| .c (po (X:=undef) [] [] 3 true rfl rfl rfl (by kernel_rfl) fun hc=>by cases hc) <|
       .c (px C rfl (fun _ _=>rfl)) .nil) ?_
     ·exact TS _ _ _ _ rfl (ev (ay qF.1 rfl rfl)) (ev (ay qF.2.1 rfl rfl)) (by simp) (hK _ _ zR rfl)
     intro qx W5 hB hR hS;clear hR hS;simp only[bJ,List.length,List.take,List.drop,List.toList_toArray];refine zn ?_
     go_frame
     have yT:=zH (And.intro (hJ.out.2.2.1.old hB) (hJ.out.2.2.2.1.trans (below_grown hB _)));clear hB;go_wp2
     go_roundw
     case rel=>exact⟨i+1,zN,by omega,by omega,by go_num,zH ⟨hJ.out.1,hJ.out.2.1.done sZ.O4 hja hji (by omega) (.inl rfl),yT.out.1,yT.out.2,fun _=>hJ.out.2.2.2.2.sp,hJ.out.2.2.2.2.st⟩⟩
     case measure=>simp[intOf];omega
  ·go_wp2
   go_end0
   exact⟨rfl,jQ,hI.out.1,hI.out.2.1.sub zL (by omega),hI.out.2.2.1,hI.out.2.2.2.1⟩
end
section
set_option maxRecDepth 100000
set_option maxHeartbeats 8000000
theorem oneS {d : Nat} {S : Nat → Prop} {base g c n a m b : Nat} {ms : List (Nat × bQ)} {w : World} (h : oH d S base g c n ms w) (hid : TW ms) (hsp : Split Ec ms a m b) (hm : m = a + 1) (hmb : m < b) (hbn : b ≤ n) (hn : n ≤ 1000000000000) (hs1 : fG (Le gX) ms a m) (hs2 : fG (Le gX) ms m b) :
  Calls Try.prog 50 #[.slice (some ⟨g,0,none⟩) n c,.int .i64 a,.int .i64 m,.int .i64 b,.func (.func 27) #[] #[]] w fun r w'=>r=.returned (.tuple #[])/\∃ms',bH ms ms' a b/\fG (Le gX) ms' a b/\oH d S base g c n ms' w'/\w.grownBy w' (some g):=by
 have HR:=zH (And.intro h (And.intro hid (And.intro hsp (And.intro hs1 hs2))));have hlm:=h.dQ;clear h hid hsp hs1 hs2
 go_enter Try.func50,Try.ntmps50
 go_wp2
 go_loopw[10,11] (fun p q wr=>∃(i j:Nat),m<=i/\i<=j/\j<=b/\p=.int .i64 i/\q=.int .i64 j/\Hid (i=m\/∀u v,ms[i-1]? =some u->ms[a]? =some v->gX u v=true)/\Hid (j=b\/∀u v,ms[j]? =some u->ms[a]? =some v->gX u v=false)/\Hid (oH d S base g c n ms wr)/\Hid (w.grownBy wr (some g))) (fun p q _=>(intOf q).toNat - (intOf p).toNat)
 case atStart=>exact⟨m,b,by omega,by omega,by omega,rfl,rfl,zH (.inl rfl),zH (.inl rfl),zH HR.out.1,zH (World.grownBy.refl _ _)⟩
 case round=>
  obtain⟨W,rfl⟩:∃z:World,z=wr:=⟨_,rfl⟩
  obtain⟨i,j,hi,hij,hj,rfl,rfl,HI,HJ,eY,o6⟩:=hrel
  by_cases hlt:i<j
  ·go_upto_region 5 with fail
   obtain⟨h,hh⟩:∃h,h=(i+j)/2:=⟨_,rfl⟩
   have XR:((i:Int)+(j:Int))/2=(h:Int):=by omega
   simp only[XR];have hih:i<=h:=by omega
   have hhj:h<j:=by omega
   clear XR hh;have hX1:h<ms.length:=by omega
   have Fg:a<ms.length:=by omega
   have TZ:h<n:=by omega
   have WL:a<n:=by omega
   obtain⟨g',xs,hA,_,hgl,xw,Ea⟩:=(eY.out).elem hX1;injection hA with hA
   injection hA with hA
   subst hA;obtain⟨g',ys,hA,_,_,xy,Eb⟩:=(eY.out).elem Fg;injection hA with hA
   injection hA with hA
   subst hA;have hx:=List.getElem?_eq_getElem hX1;have hy:=List.getElem?_eq_getElem Fg;have hxi:=HR.out.2.1 _ (List.getElem_mem hX1);have hyi:=HR.out.2.1 _ (List.getElem_mem Fg);generalize ms[h]=x at *;generalize ms[a]=y at *;obtain⟨lb,hlb⟩:∃z,gX x y=z:=⟨_,rfl⟩
   have hcode:decide ((x.2.id:Int)-y.2.id<0)=lb:=by
    rw[<-hlb,xe (HR.out.2.2.1 a h y x (by omega) (by omega) (by omega) (by omega) hy hx)]
    apply decide_eq_decide.2
    omega
   have FD:=zH hcode;have HX:=zH (And.intro hx (And.intro hy hlb));have HS:=zH (And.intro xw (And.intro xy (And.intro Ea (And.intro Eb (And.intro hxi hyi)))));have hlx:=CK.len xw;have Ji:=CK.len xy;clear hx hy hlb hcode xw xy Ea Eb hxi hyi
   refine wx (fun _=>false) [.is (.func (.func 27) #[] #[]),.is (.slice (some ⟨g,0,none⟩) n c),.is (.int .i64 (h:Nat)),.is (.pointer (some ⟨g,h*3,none⟩)),.is (.agg xs.toArray),.is (.slice (some ⟨g,0,none⟩) n c),.is (.int .i64 (a:Nat)),.is (.pointer (some ⟨g,a*3,none⟩)),.is (.agg ys.toArray),.is (.int .i64 ((x.2.id:Int)-y.2.id)),.is (.bool lb)] [3,4,7,8,9,10] (by kernel_rfl) (by kernel_rfl) (by kernel_rfl)
    (fun C=>.c (px C rfl (fun _ _=>rfl)) <| .c (px C rfl (fun _ _=>rfl)) <| .c (px C rfl (fun _ _=>rfl)) <| .c (pz [1,2] [] (by kernel_rfl) fun qK qa wr hB qO qF hK=>?_) <| .c (pz [3] [] (by kernel_rfl) fun qK qa wr hB qO qF hK=>?_) <| .c (px C rfl (fun _ _=>rfl)) <| .c (px C rfl (fun _ _=>rfl)) <| .c (pz [5,6] [] (by kernel_rfl) fun qK qa wr hB qO qF hK=>?_) <| .c (pz [7] [] (by kernel_rfl) fun qK qa wr hB qO qF hK=>?_) <| .c (pz [0,4,8] [] (by kernel_rfl) fun qK qa wr hB qO qF hK=>?_) <| .c (pz [9] [] (by kernel_rfl) fun qK qa wr hB qO qF hK=>?_) <| .nil) ?_
   ·exact gu dH.1 _ _ rfl (ev (ay qF.1 rfl rfl)) (ev (ay qF.2.1 rfl rfl)) TZ (hK _ _ zR rfl)
   ·exact fQ dH _ rfl (ev (ay qF.1 rfl rfl)) xs hlx (fun i u hu=>bc hB (HS.out.2.2.1 i u hu)) (hK _ _ zR rfl)
   ·exact gu dH.1 _ _ rfl (ev (ay qF.1 rfl rfl)) (ev (ay qF.2.1 rfl rfl)) WL (hK _ _ zR rfl)
   ·exact fQ dH _ rfl (ev (ay qF.1 rfl rfl)) ys Ji (fun i u hu=>bc hB (HS.out.2.2.2.1 i u hu)) (hK _ _ zR rfl)
   ·have e1:=ay qF.1 rfl rfl;have e2:=ay qF.2.1 rfl rfl;have e3:=ay qF.2.2.1 rfl rfl;clear qO qF;go_simp
    go_at_call 27
    refine(WJ (CK.keep (P:=Nq d) (n:=3) (fE.old hB) HS.out.1) (CK.keep (P:=Nq d) (n:=3) (fE.old hB) HS.out.2.1) HS.out.2.2.2.2.1 HS.out.2.2.2.2.2).mono ?_;rintro r w2 ⟨rfl,hb2⟩;exact hK _ _ hb2 rfl
   ·exact Ff _ _ _ _ rfl (ev (ay qF.1 rfl rfl)) rfl FD.out (hK _ _ zR rfl)
   intro qx W5 hB hR hS;clear hR hS;simp only[bJ,List.length,List.take,List.drop,List.toList_toArray];refine zn ?_
   go_frame
   have yT:=zH (And.intro (eY.out.old hB) (o6.out.trans (below_grown hB _)));clear hB HS FD;cases lb
   ·have HNJ:Hid (h=b\/∀u v,ms[h]? =some u->ms[a]? =some v->gX u v=false):=zH (.inr fun u v hu hv=>by
     have h1:=HX.out.1;have h2:=HX.out.2.1;rw[hu]at h1;rw[hv]at h2;injection h1 with h1;injection h2 with h2
     subst h1;subst h2;exact HX.out.2.2)
    clear HX eY o6;go_wp2
    go_roundw
    case rel=>exact⟨i,h,by omega,by omega,by omega,rfl,rfl,HI,HNJ,zH yT.out.1,zH yT.out.2⟩
    case measure=>simp[intOf];omega
   ·have HNI:Hid (h+1=m\/∀u v,ms[h+1-1]? =some u->ms[a]? =some v->gX u v=true):=zH (.inr fun u v hu hv=>by
     rw[Nat.add_sub_cancel]at hu;have h1:=HX.out.1;have h2:=HX.out.2.1;rw[hu]at h1;rw[hv]at h2;injection h1 with h1;injection h2 with h2
     subst h1;subst h2;exact HX.out.2.2)
    clear HX eY o6;go_wp2
    go_roundw
    case rel=>exact⟨h+1,j,by omega,by omega,by omega,by go_num,rfl,HNI,HJ,zH yT.out.1,zH yT.out.2⟩
    case measure=>simp[intOf];omega
  ·obtain rfl:i=j:=by omega
   go_wp2
   go_loopw[13] (fun p wi=>∃(k:Nat) (jQ:List (Nat×bQ)),a<=k/\k<=i-1/\p=.int .i64 k/\Hid (Up ms jQ a k/\oH d S base g c n jQ wi/\w.grownBy wi (some g))) (fun p _=>i-(intOf p).toNat)
   case atStart=>exact⟨a,ms,by omega,by omega,rfl,zH ⟨Up.zero _ _,eY.out,o6.out⟩⟩
   case round=>
    obtain⟨W2,rfl⟩:∃z:World,z=wr:=⟨_,rfl⟩
    obtain⟨k,jQ,hk1,hk2,rfl,hU⟩:=hrel;have hl2:=hU.out.2.1.dQ;clear eY o6
    by_cases hlt2:k<i-1
    ·have hX1:k<jQ.length:=by omega
     have Fg:k+1<jQ.length:=by omega
     have TZ:k<n:=by omega
     have WL:k+1<n:=by omega
     have jP:=zH (hU.out.1.step (by omega) (by omega));obtain⟨g',xs,hA,_,hgl,xw,Ea⟩:=(hU.out.2.1).elem hX1;injection hA with hA
     injection hA with hA
     subst hA;obtain⟨g',ys,hA,_,_,xy,Eb⟩:=(hU.out.2.1).elem Fg;injection hA with hA
     injection hA with hA
     subst hA;have hx:=List.getElem?_eq_getElem hX1;have hy:=List.getElem?_eq_getElem Fg;generalize jQ[k]=x at *;generalize jQ[k+1]=y at *;have hsl:=zH (mG hx hy);have HS:=zH (And.intro xw (And.intro xy (And.intro Ea Eb)));have hlx:=CK.len xw;have Ji:=CK.len xy;clear hx hy xw xy Ea Eb;go_upto_region 11 with fail
     refine Go.Proofs.Ytbjnhllkdilpfaa.wr 15 (some g) [.is (.slice (some ⟨g,0,none⟩) n c),.is (.int .i64 (k:Nat)),.is (.slice (some ⟨g,0,none⟩) n c),.is (.int .i64 (k:Nat)),.is (.int .i64 ((k+1:Nat):Int)),.is (.slice (some ⟨g,0,none⟩) n c),.is (.int .i64 (k:Nat)),.is (.int .i64 ((k+1:Nat):Int)),.is (.pointer (some ⟨g,(k+1)*3,none⟩)),.is (.agg ys.toArray),.is (.slice (some ⟨g,0,none⟩) n c),.is (.int .i64 (k:Nat)),.is (.pointer (some ⟨g,k*3,none⟩)),.is (.agg xs.toArray),.is (.pointer (some ⟨g,k*3,none⟩)),.st (fun v w=>oH d S base g c n (jQ.set k y) w) (fun _ _ _ hb h=>h.old hb)] [4,7,8,9,12,13,14,15] (by kernel_rfl) (by kernel_rfl) (by kernel_rfl)
      (fun C=>.c (ah.x (rG _) C rfl (fun _ _=>rfl)) <| .c (ah.x (rG _) C rfl (fun _ _=>rfl)) <| .c (ah.x (rG _) C rfl (fun _ _=>rfl)) <| .c (ah.x (rG _) C rfl (fun _ _=>rfl)) <| .c (ah.a (rG _) [3] [] (by kernel_rfl) fun qK qa wr hG qO qF hK=>?_) <| .c (ah.x (rG _) C rfl (fun _ _=>rfl)) <| .c (ah.x (rG _) C rfl (fun _ _=>rfl)) <| .c (ah.z (rG _) [6] [] (by kernel_rfl) fun qK qa wr hB qO qF hK=>?_) <| .c (ah.z (rG _) [5,7] [] (by kernel_rfl) fun qK qa wr hB qO qF hK=>?_) <| .c (ah.z (rG _) [8] [] (by kernel_rfl) fun qK qa wr hB qO qF hK=>?_) <| .c (ah.x (rG _) C rfl (fun _ _=>rfl)) <| .c (ah.x (rG _) C rfl (fun _ _=>rfl)) <| .c (ah.z (rG _) [10,11] [] (by kernel_rfl) fun qK qa wr hB qO qF hK=>?_) <| .c (ah.z (rG _) [12] [] (by kernel_rfl) fun qK qa wr hB qO qF hK=>?_) <| .c (ah.z (rG _) [0,1] [] (by kernel_rfl) fun qK qa wr hB qO qF hK=>?_) <| .c (ah.g [14,9] [] (by kernel_rfl) fun qK qa wr hB qO qF hK=>?_) <| .nil) ?_
     ·obtain⟨qb,qF⟩:=qF;exact yj _ _ _ _ rfl (ev (Ee qF.1 rfl rfl)) rfl (by omega) (by omega) (by omega) (hK _ zR)
     ·exact yj _ _ _ _ rfl (ev (ay qF.1 rfl rfl)) rfl (by omega) (by omega) (by omega) (hK _ _ zR rfl)
     ·exact gu dH.1 _ _ rfl (ev (ay qF.1 rfl rfl)) (ev (ay qF.2.1 rfl rfl)) WL (hK _ _ zR rfl)
     ·exact fQ dH _ rfl (ev (ay qF.1 rfl rfl)) ys Ji (fun i u hu=>bc hB (HS.out.2.2.2 i u hu)) (hK _ _ zR rfl)
     ·exact gu dH.1 _ _ rfl (ev (ay qF.1 rfl rfl)) (ev (ay qF.2.1 rfl rfl)) TZ (hK _ _ zR rfl)
     ·exact fQ dH _ rfl (ev (ay qF.1 rfl rfl)) xs hlx (fun i u hu=>bc hB (HS.out.2.2.1 i u hu)) (hK _ _ zR rfl)
     ·exact gu dH.1 _ _ rfl (ev (ay qF.1 rfl rfl)) (ev (ay qF.2.1 rfl rfl)) TZ (hK _ _ zR rfl)
     ·refine vH dH _ _ rfl ((hU.out.2.1).old hB) (ev (ay qF.1 rfl rfl)) ys (ev (ay qF.2.1 rfl rfl)) (k:=k) hX1 y (CK.keep (fE.old hB) HS.out.2.1) ?_;intro w3 h3 _ hg3 hs3;exact hK undef _ (World.grownBy.trans (below_grown hB _) hg3) (Nat.le_of_eq hs3.symm) h3
     intro qx W6 hG hR;have h15:=hR 15 rfl rfl;clear hR;simp only[bJ,List.length,List.take,List.drop,List.toList_toArray]
     go_frame
     have Lh:=zH (CK.keep (n:=3) (fE.fJ hG (fun b hb=>hb.2)) HS.out.1);have hp4:k+1<(jQ.set k y).length:=by rw[List.length_set];exact Fg
     go_wp2_with (first|(refine jk dH rfl _ _ rfl h15 rfl xs rfl (k:=k+1) hp4 x Lh.out ?_;intro w9 p9 _ g9 z9))
     go_roundw
     case rel=>exact⟨k+1,by omega,by omega,by omega,lG jQ k (k+1),zH ⟨jP.out,by rw[hsl.out];exact p9,hU.out.2.2.trans (hG.trans g9)⟩⟩
     case measure=>simp[intOf];omega
    ·have hkb:k=i-1:=by omega
     go_wp2
     refine bodyPost_ret (v:=.tuple #[]) (by simp[results,Try.results50,go_sem]) rfl ?_;have Iq:=hU.out.1;rw[hkb]at Iq;exact⟨rfl,jQ,Iq.moved.wide zL (by omega),TQ sZ (by omega) (by omega) (by omega) (by rw[<-hm];exact HR.out.2.2.2.2) Iq (by rw[<-hm];exact HI.out) HJ.out,hU.out.2.1,hU.out.2.2⟩
end
theorem Ua {l l':List (Nat×bQ)} {k m:Nat} (h:Dn l l' k m) (hk:0<k) (hkm:k<=m) (hlen:m<l.length):Dn l (lG l' k (k-1)) (k-1) m:=by
 obtain⟨p,rfl⟩:∃p,k=p+1:=⟨k-1,by omega⟩
 exact h.step hkm hlen
section
set_option maxRecDepth 100000
set_option maxHeartbeats 8000000
theorem zBh {d : Nat} {S : Nat → Prop} {base g c n a m b : Nat} {ms : List (Nat × bQ)} {w : World} (h : oH d S base g c n ms w) (hid : TW ms) (hsp : Split Ec ms a m b) (ham : a + 1 < m) (hm : b = m + 1) (hbn : b ≤ n) (hn : n ≤ 1000000000000) (hs1 : fG (Le gX) ms a m) (hs2 : fG (Le gX) ms m b) :
  Calls Try.prog 50 #[.slice (some ⟨g,0,none⟩) n c,.int .i64 a,.int .i64 m,.int .i64 b,.func (.func 27) #[] #[]] w fun r w'=>r=.returned (.tuple #[])/\∃ms',bH ms ms' a b/\fG (Le gX) ms' a b/\oH d S base g c n ms' w'/\w.grownBy w' (some g):=by
 have HR:=zH (And.intro h (And.intro hid (And.intro hsp (And.intro hs1 hs2))));have hlm:=h.dQ;clear h hid hsp hs1 hs2
 go_enter Try.func50,Try.ntmps50
 go_wp2
 go_loopw[14,15] (fun p q wr=>∃(i j:Nat),a<=i/\i<=j/\j<=m/\p=.int .i64 i/\q=.int .i64 j/\Hid (i=a\/∀u v,ms[i-1]? =some u->ms[m]? =some v->gX v u=false)/\Hid (j=m\/∀u v,ms[j]? =some u->ms[m]? =some v->gX v u=true)/\Hid (oH d S base g c n ms wr)/\Hid (w.grownBy wr (some g))) (fun p q _=>(intOf q).toNat - (intOf p).toNat)
 case atStart=>exact⟨a,m,by omega,by omega,by omega,rfl,rfl,zH (.inl rfl),zH (.inl rfl),zH HR.out.1,zH (World.grownBy.refl _ _)⟩
 case round=>
  obtain⟨W,rfl⟩:∃z:World,z=wr:=⟨_,rfl⟩
  obtain⟨i,j,hi,hij,hj,rfl,rfl,HI,HJ,eY,o6⟩:=hrel
  by_cases hlt:i<j
  ·go_upto_region 17 with fail
   obtain⟨h,hh⟩:∃h,h=(i+j)/2:=⟨_,rfl⟩
   have XR:((i:Int)+(j:Int))/2=(h:Int):=by omega
   simp only[XR];have hih:i<=h:=by omega
   have hhj:h<j:=by omega
   clear XR hh;have hX1:m<ms.length:=by omega
   have Fg:h<ms.length:=by omega
   have TZ:m<n:=by omega
   have WL:h<n:=by omega
   obtain⟨g',xs,hA,_,hgl,xw,Ea⟩:=(eY.out).elem hX1;injection hA with hA
   injection hA with hA
   subst hA;obtain⟨g',ys,hA,_,_,xy,Eb⟩:=(eY.out).elem Fg;injection hA with hA
   injection hA with hA
   subst hA;have hx:=List.getElem?_eq_getElem hX1;have hy:=List.getElem?_eq_getElem Fg;have hxi:=HR.out.2.1 _ (List.getElem_mem hX1);have hyi:=HR.out.2.1 _ (List.getElem_mem Fg);generalize ms[m]=x at *;generalize ms[h]=y at *;obtain⟨lb,hlb⟩:∃z,gX x y=z:=⟨_,rfl⟩
   have hcode:decide ((x.2.id:Int)-y.2.id<0)=lb:=by
    rw[<-hlb,xe (HR.out.2.2.1 h m y x (by omega) (by omega) (by omega) (by omega) hy hx)]
    apply decide_eq_decide.2
    omega
   have FD:=zH hcode;have HX:=zH (And.intro hx (And.intro hy hlb));have HS:=zH (And.intro xw (And.intro xy (And.intro Ea (And.intro Eb (And.intro hxi hyi)))));have hlx:=CK.len xw;have Ji:=CK.len xy;clear hx hy hlb hcode xw xy Ea Eb hxi hyi
   refine wx (fun _=>false) [.is (.func (.func 27) #[] #[]),.is (.slice (some ⟨g,0,none⟩) n c),.is (.int .i64 (m:Nat)),.is (.pointer (some ⟨g,m*3,none⟩)),.is (.agg xs.toArray),.is (.slice (some ⟨g,0,none⟩) n c),.is (.int .i64 (h:Nat)),.is (.pointer (some ⟨g,h*3,none⟩)),.is (.agg ys.toArray),.is (.int .i64 ((x.2.id:Int)-y.2.id)),.is (.bool lb),.is (.bool (!lb))] [3,4,7,8,9,10,11] (by kernel_rfl) (by kernel_rfl) (by kernel_rfl)
    (fun C=>.c (px C rfl (fun _ _=>rfl)) <| .c (px C rfl (fun _ _=>rfl)) <| .c (px C rfl (fun _ _=>rfl)) <| .c (pz [1,2] [] (by kernel_rfl) fun qK qa wr hB qO qF hK=>?_) <| .c (pz [3] [] (by kernel_rfl) fun qK qa wr hB qO qF hK=>?_) <| .c (px C rfl (fun _ _=>rfl)) <| .c (px C rfl (fun _ _=>rfl)) <| .c (pz [5,6] [] (by kernel_rfl) fun qK qa wr hB qO qF hK=>?_) <| .c (pz [7] [] (by kernel_rfl) fun qK qa wr hB qO qF hK=>?_) <| .c (pz [0,4,8] [] (by kernel_rfl) fun qK qa wr hB qO qF hK=>?_) <| .c (pz [9] [] (by kernel_rfl) fun qK qa wr hB qO qF hK=>?_) <| .c (pz [10] [] (by kernel_rfl) fun qK qa wr hB qO qF hK=>?_) <| .nil) ?_
   ·exact gu dH.1 _ _ rfl (ev (ay qF.1 rfl rfl)) (ev (ay qF.2.1 rfl rfl)) TZ (hK _ _ zR rfl)
   ·exact fQ dH _ rfl (ev (ay qF.1 rfl rfl)) xs hlx (fun i u hu=>bc hB (HS.out.2.2.1 i u hu)) (hK _ _ zR rfl)
   ·exact gu dH.1 _ _ rfl (ev (ay qF.1 rfl rfl)) (ev (ay qF.2.1 rfl rfl)) WL (hK _ _ zR rfl)
   ·exact fQ dH _ rfl (ev (ay qF.1 rfl rfl)) ys Ji (fun i u hu=>bc hB (HS.out.2.2.2.1 i u hu)) (hK _ _ zR rfl)
   ·have e1:=ay qF.1 rfl rfl;have e2:=ay qF.2.1 rfl rfl;have e3:=ay qF.2.2.1 rfl rfl;clear qO qF;go_simp
    go_at_call 27
    refine(WJ (CK.keep (P:=Nq d) (n:=3) (fE.old hB) HS.out.1) (CK.keep (P:=Nq d) (n:=3) (fE.old hB) HS.out.2.1) HS.out.2.2.2.2.1 HS.out.2.2.2.2.2).mono ?_;rintro r w2 ⟨rfl,hb2⟩;exact hK _ _ hb2 rfl
   ·exact Ff _ _ _ _ rfl (ev (ay qF.1 rfl rfl)) rfl FD.out (hK _ _ zR rfl)
   ·exact TT _ _ rfl (ev (ay qF.1 rfl rfl)) (hK _ _ zR rfl)
   intro qx W5 hB hR hS;clear hR hS;simp only[bJ,List.length,List.take,List.drop,List.toList_toArray];refine zn ?_
   go_frame
   have yT:=zH (And.intro (eY.out.old hB) (o6.out.trans (below_grown hB _)));clear hB HS FD;cases lb
   ·have HNI:Hid (h+1=a\/∀u v,ms[h+1-1]? =some u->ms[m]? =some v->gX v u=false):=zH (.inr fun u v hu hv=>by
     rw[Nat.add_sub_cancel]at hu;have h1:=HX.out.1;have h2:=HX.out.2.1;rw[hv]at h1;rw[hu]at h2;injection h1 with h1;injection h2 with h2
     subst h1;subst h2;exact HX.out.2.2)
    clear HX eY o6;go_wp2
    go_roundw
    case rel=>exact⟨h+1,j,by omega,by omega,by omega,by go_num,rfl,HNI,HJ,zH yT.out.1,zH yT.out.2⟩
    case measure=>simp[intOf];omega
   ·have HNJ:Hid (h=m\/∀u v,ms[h]? =some u->ms[m]? =some v->gX v u=true):=zH (.inr fun u v hu hv=>by
     have h1:=HX.out.1;have h2:=HX.out.2.1;rw[hv]at h1;rw[hu]at h2;injection h1 with h1;injection h2 with h2
     subst h1;subst h2;exact HX.out.2.2)
    clear HX eY o6;go_wp2
    go_roundw
    case rel=>exact⟨i,h,by omega,by omega,by omega,rfl,rfl,HI,HNJ,zH yT.out.1,zH yT.out.2⟩
    case measure=>simp[intOf];omega
  ·obtain rfl:i=j:=by omega
   go_wp2
   go_loopw[17] (fun p wi=>∃(k:Nat) (jQ:List (Nat×bQ)),i<=k/\k<=m/\p=.int .i64 k/\Hid (Dn ms jQ k m/\oH d S base g c n jQ wi/\w.grownBy wi (some g))) (fun p _=>(intOf p).toNat)
   case atStart=>exact⟨m,ms,by omega,by omega,rfl,zH ⟨Dn.zero _ _,eY.out,o6.out⟩⟩
   case round=>
    obtain⟨W2,rfl⟩:∃z:World,z=wr:=⟨_,rfl⟩
    obtain⟨k,jQ,hk1,hk2,rfl,hU⟩:=hrel;have hl2:=hU.out.2.1.dQ;clear eY o6
    by_cases hlt2:i<k
    ·have hX1:k<jQ.length:=by omega
     have Fg:k-1<jQ.length:=by omega
     have TZ:k<n:=by omega
     have WL:k-1<n:=by omega
     have jP:=zH (Ua hU.out.1 (by omega) (by omega) (by omega));obtain⟨g',xs,hA,_,hgl,xw,Ea⟩:=(hU.out.2.1).elem hX1;injection hA with hA
     injection hA with hA
     subst hA;obtain⟨g',ys,hA,_,_,xy,Eb⟩:=(hU.out.2.1).elem Fg;injection hA with hA
     injection hA with hA
     subst hA;have hx:=List.getElem?_eq_getElem hX1;have hy:=List.getElem?_eq_getElem Fg;generalize jQ[k]=x at *;generalize jQ[k-1]=y at *;have hsl:=zH (mG hx hy);have HS:=zH (And.intro xw (And.intro xy (And.intro Ea Eb)));have hlx:=CK.len xw;have Ji:=CK.len xy;clear hx hy xw xy Ea Eb;go_upto_region 23 with fail
     refine Go.Proofs.Ytbjnhllkdilpfaa.wr 15 (some g) [.is (.slice (some ⟨g,0,none⟩) n c),.is (.int .i64 (k:Nat)),.is (.slice (some ⟨g,0,none⟩) n c),.is (.int .i64 (k:Nat)),.is (.int .i64 ((k-1:Nat):Int)),.is (.slice (some ⟨g,0,none⟩) n c),.is (.int .i64 (k:Nat)),.is (.int .i64 ((k-1:Nat):Int)),.is (.pointer (some ⟨g,(k-1)*3,none⟩)),.is (.agg ys.toArray),.is (.slice (some ⟨g,0,none⟩) n c),.is (.int .i64 (k:Nat)),.is (.pointer (some ⟨g,k*3,none⟩)),.is (.agg xs.toArray),.is (.pointer (some ⟨g,k*3,none⟩)),.st (fun v w=>oH d S base g c n (jQ.set k y) w) (fun _ _ _ hb h=>h.old hb)] [4,7,8,9,12,13,14,15] (by kernel_rfl) (by kernel_rfl) (by kernel_rfl)
      (fun C=>.c (ah.x (rG _) C rfl (fun _ _=>rfl)) <| .c (ah.x (rG _) C rfl (fun _ _=>rfl)) <| .c (ah.x (rG _) C rfl (fun _ _=>rfl)) <| .c (ah.x (rG _) C rfl (fun _ _=>rfl)) <| .c (ah.a (rG _) [3] [] (by kernel_rfl) fun qK qa wr hG qO qF hK=>?_) <| .c (ah.x (rG _) C rfl (fun _ _=>rfl)) <| .c (ah.x (rG _) C rfl (fun _ _=>rfl)) <| .c (ah.z (rG _) [6] [] (by kernel_rfl) fun qK qa wr hB qO qF hK=>?_) <| .c (ah.z (rG _) [5,7] [] (by kernel_rfl) fun qK qa wr hB qO qF hK=>?_) <| .c (ah.z (rG _) [8] [] (by kernel_rfl) fun qK qa wr hB qO qF hK=>?_) <| .c (ah.x (rG _) C rfl (fun _ _=>rfl)) <| .c (ah.x (rG _) C rfl (fun _ _=>rfl)) <| .c (ah.z (rG _) [10,11] [] (by kernel_rfl) fun qK qa wr hB qO qF hK=>?_) <| .c (ah.z (rG _) [12] [] (by kernel_rfl) fun qK qa wr hB qO qF hK=>?_) <| .c (ah.z (rG _) [0,1] [] (by kernel_rfl) fun qK qa wr hB qO qF hK=>?_) <| .c (ah.g [14,9] [] (by kernel_rfl) fun qK qa wr hB qO qF hK=>?_) <| .nil) ?_
     ·obtain⟨qb,qF⟩:=qF;exact yl _ _ _ _ rfl (ev (Ee qF.1 rfl rfl)) rfl (by omega) (by omega) (by omega) (hK _ zR)
     ·exact yl _ _ _ _ rfl (ev (ay qF.1 rfl rfl)) rfl (by omega) (by omega) (by omega) (hK _ _ zR rfl)
     ·exact gu dH.1 _ _ rfl (ev (ay qF.1 rfl rfl)) (ev (ay qF.2.1 rfl rfl)) WL (hK _ _ zR rfl)
     ·exact fQ dH _ rfl (ev (ay qF.1 rfl rfl)) ys Ji (fun i u hu=>bc hB (HS.out.2.2.2 i u hu)) (hK _ _ zR rfl)
     ·exact gu dH.1 _ _ rfl (ev (ay qF.1 rfl rfl)) (ev (ay qF.2.1 rfl rfl)) TZ (hK _ _ zR rfl)
     ·exact fQ dH _ rfl (ev (ay qF.1 rfl rfl)) xs hlx (fun i u hu=>bc hB (HS.out.2.2.1 i u hu)) (hK _ _ zR rfl)
     ·exact gu dH.1 _ _ rfl (ev (ay qF.1 rfl rfl)) (ev (ay qF.2.1 rfl rfl)) TZ (hK _ _ zR rfl)
     ·refine vH dH _ _ rfl ((hU.out.2.1).old hB) (ev (ay qF.1 rfl rfl)) ys (ev (ay qF.2.1 rfl rfl)) (k:=k) hX1 y (CK.keep (fE.old hB) HS.out.2.1) ?_;intro w3 h3 _ hg3 hs3;exact hK undef _ (World.grownBy.trans (below_grown hB _) hg3) (Nat.le_of_eq hs3.symm) h3
     intro qx W6 hG hR;have h15:=hR 15 rfl rfl;clear hR;simp only[bJ,List.length,List.take,List.drop,List.toList_toArray]
     go_frame
     have Lh:=zH (CK.keep (n:=3) (fE.fJ hG (fun b hb=>hb.2)) HS.out.1);have hp4:k-1<(jQ.set k y).length:=by rw[List.length_set];exact Fg
     go_wp2_with (first|(refine jk dH rfl _ _ rfl h15 rfl xs rfl (k:=k-1) hp4 x Lh.out ?_;intro w9 p9 _ g9 z9))
     go_roundw
     case rel=>exact⟨k-1,by omega,by omega,by omega,lG jQ k (k-1),zH ⟨jP.out,by rw[hsl.out];exact p9,hU.out.2.2.trans (hG.trans g9)⟩⟩
     case measure=>simp[intOf];omega
    ·have hkb:k=i:=by omega
     go_wp2
     refine bodyPost_ret (v:=.tuple #[]) (by simp[results,Try.results50,go_sem]) rfl ?_;have Iq:=hU.out.1;rw[hkb]at Iq;exact⟨rfl,jQ,Iq.moved.wide (by omega) (by omega),by rw[hm];exact TR sZ (by omega) (by omega) (by omega) HR.out.2.2.2.1 Iq HI.out HJ.out,hU.out.2.1,hU.out.2.2⟩
end
def jB (h:Nat):ai:=
 ⟨some ⟨h+1+1+1,0,none⟩,3,[⟨⟨#[65]⟩,some ⟨h+1,0,none⟩,2,[⟨⟨#[107]⟩,1⟩,⟨⟨#[120]⟩,1⟩]⟩,⟨⟨#[66]⟩,some ⟨h+1+1,0,none⟩,2,[⟨⟨#[107]⟩,1⟩,⟨⟨#[120]⟩,4⟩]⟩,⟨⟨#[67]⟩,none,0,[]⟩],some ⟨h+1+1+1+1,0,none⟩,1,[⟨#[97,110,110]⟩]⟩
theorem Uj (w:World):Calls Try.prog 20 #[] w fun r w'=>r=.returned (jB w.heap.size).val/\(jB w.heap.size).ok w' w'.heap.size/\Below w.heap.size w w':=by
 obtain⟨h,hh⟩:∃z,w.heap.size=z:=⟨_,rfl⟩
 have HH:=zH hh;clear hh
 go_enter Try.func20,Try.ntmps20
 go_wp2
 have k0:=Bk.new w 61 #[.slice (some ⟨w.heap.size+1+1+1,0,none⟩) 3 3,.slice (some ⟨w.heap.size+1+1+1+1,0,none⟩) 1 1];obtain⟨wA,hwA⟩:∃z,w.alloc (.cells #[.slice (some ⟨w.heap.size+1+1+1,0,none⟩) 3 3,.slice (some ⟨w.heap.size+1+1+1+1,0,none⟩) 1 1] 61)=z:=⟨_,rfl⟩
 have b0:Below w.heap.size w wA:=by rw[<-hwA];exact zR.alloc zL _
 have s0:wA.heap.size=w.heap.size+1:=by rw[<-hwA];simp
 rw[hwA]at k0⊢;have k1:=Bk.newAt s0.symm 86 #[.string ⟨#[107]⟩,.int .i64 1,.string ⟨#[120]⟩,.int .i64 1];obtain⟨wB,hwB⟩:∃z,wA.alloc (.cells #[.string ⟨#[107]⟩,.int .i64 1,.string ⟨#[120]⟩,.int .i64 1] 86)=z:=⟨_,rfl⟩
 have b1:Below wA.heap.size wA wB:=by rw[<-hwB];exact zR.alloc zL _
 have s1:wB.heap.size=w.heap.size+1+1:=by rw[<-hwB];simp[s0]
 rw[hwB]at k1⊢;have k2:=Bk.newAt s1.symm 86 #[.string ⟨#[107]⟩,.int .i64 1,.string ⟨#[120]⟩,.int .i64 4];obtain⟨wC,hwC⟩:∃z,wB.alloc (.cells #[.string ⟨#[107]⟩,.int .i64 1,.string ⟨#[120]⟩,.int .i64 4] 86)=z:=⟨_,rfl⟩
 have b2:Below wB.heap.size wB wC:=by rw[<-hwC];exact zR.alloc zL _
 have s2:wC.heap.size=w.heap.size+1+1+1:=by rw[<-hwC];simp[s1]
 rw[hwC]at k2⊢;have k3:=Bk.newAt s2.symm 89 #[.string ⟨#[65]⟩,.slice (some ⟨w.heap.size+1,0,none⟩) 2 2,.string ⟨#[66]⟩,.slice (some ⟨w.heap.size+1+1,0,none⟩) 2 2,.string ⟨#[67]⟩,.slice none 0 0];obtain⟨wD,hwD⟩:∃z,wC.alloc (.cells #[.string ⟨#[65]⟩,.slice (some ⟨w.heap.size+1,0,none⟩) 2 2,.string ⟨#[66]⟩,.slice (some ⟨w.heap.size+1+1,0,none⟩) 2 2,.string ⟨#[67]⟩,.slice none 0 0] 89)=z:=⟨_,rfl⟩
 have b3:Below wC.heap.size wC wD:=by rw[<-hwD];exact zR.alloc zL _
 have s3:wD.heap.size=w.heap.size+1+1+1+1:=by rw[<-hwD];simp[s2]
 rw[hwD]at k3⊢;have k4:=Bk.newAt s3.symm 9 #[.string ⟨#[97,110,110]⟩];obtain⟨wE,hwE⟩:∃z,wD.alloc (.cells #[.string ⟨#[97,110,110]⟩] 9)=z:=⟨_,rfl⟩
 have b4:Below wD.heap.size wD wE:=by rw[<-hwE];exact zR.alloc zL _
 have s4:wE.heap.size=w.heap.size+1+1+1+1+1:=by rw[<-hwE];simp[s3]
 rw[hwE]at k4⊢;have K0:=(((k0.old b1).old b2).old b3).old b4;have K1:=((k1.old b2).old b3).old b4;have K2:=(k2.old b3).old b4;have K3:=k3.old b4;have hb:Below w.heap.size w wE:=(((b0.trans (b1.mono (by omega))).trans (b2.mono (by omega))).trans (b3.mono (by omega))).trans (b4.mono (by omega));have u0:=K0.cell 0;have u1:=K0.cell 1;simp only[List.getElem?_toArray,List.getElem?_cons_zero,List.getElem?_cons_succ]at u0 u1;have HK:=zH (And.intro K1 (And.intro K2 (And.intro K3 (And.intro k4 (And.intro hb s4)))));clear K0 K1 K2 K3 k0 k1 k2 k3 k4 b0 b1 b2 b3 b4 s0 s1 s2 s3 s4 hwA hwB hwC hwD hwE hb;refine bodyPost_ret (v:=.agg #[.slice (some ⟨w.heap.size+1+1+1,0,none⟩) 3 3,.slice (some ⟨w.heap.size+1+1+1+1,0,none⟩) 1 1]) (by simp[results,Try.results20,go_sem,u0,u1]) rfl ?_;obtain⟨K1,K2,K3,K4,hb,s4⟩:=HK.out;refine⟨rfl,⟨Rd.bk K3 K3.lt,by simp[jB],fun t ht=>?_,?_,by simp[jB],fun x hx=>?_⟩,hb⟩
 ·simp only[jB,List.mem_cons,List.not_mem_nil,or_false]at ht;rcases ht with rfl|rfl|rfl
  ·exact⟨Rd.bk K1 K1.lt,by simp,by show(⟨#[65]⟩:ByteArray).size<=_;decide,fun f hf=>by simp only[List.mem_cons,List.not_mem_nil,or_false]at hf;rcases hf with rfl|rfl<;>decide⟩
  ·exact⟨Rd.bk K2 K2.lt,by simp,by show(⟨#[66]⟩:ByteArray).size<=_;decide,fun f hf=>by simp only[List.mem_cons,List.not_mem_nil,or_false]at hf;rcases hf with rfl|rfl<;>decide⟩
  ·exact⟨.inl rfl,by simp,by decide,fun f hf=>by simp at hf⟩
 ·exact Rd.bk K4 K4.lt
 ·simp only[jB,List.mem_cons,List.not_mem_nil,or_false]at hx;subst hx
  decide
end Go.Proofs.Ytbjnhllkdilpfaa
namespace Go.Proofs.Ytbjnhllkdilpfaa
open Go.RowKit
set_option linter.unusedSimpArgs false
set_option linter.unusedVariables false
set_option maxRecDepth 10000
def uX:ax->Bool
 |.leaf _ n _ _ _ _=>decide (n<=9223372036854775807)
 |.un _ x _=>uX x
 |.bin _ x y _=>uX x&&uX y
theorem tu:∀e:ax,uX e=true->kF e
 |.leaf _ n _ _ _ _,h=>by
  show n<=_
  simpa[uX]using h
 |.un _ x _,h=>tu x h
 |.bin _ x y _,h=>by
  simp only[uX,Bool.and_eq_true]at h;exact⟨tu x h.1,tu y h.2⟩
def qbB (q:bK):Bool:=q.cond.all uX&&(decide (q.branches.length<=1000)&&(decide (q.cond.length<=100000)&&(decide (q.aP<=1000)&&(decide (q.window<=9223372036854775807)&&(q.branches.all (fun l=>decide (l.length<=1000))&&decide (iJ q<=1000000))))))
theorem zBq {q:bK} (h:qbB q=true):QB q:=by
 unfold qbB at h;simp only[Bool.and_eq_true,decide_eq_true_eq,List.all_eq_true]at h;exact⟨fun e he=>tu e (h.1 e he),h.2.1,h.2.2.1,h.2.2.2.1,h.2.2.2.2.1,h.2.2.2.2.2.1,h.2.2.2.2.2.2⟩
def CX:Str:=[80,65,84,84,69,82,78,32,83,69,81,40,65,32,97,44,32,33,67,32,110,44,32,66,43,32,98,44,32,33,67,32,109,41,32,87,72,69,82,69,32,67,79,85,78,84,40,98,41,32,62,32,49,32,83,84,82,65,84,69,71,89,32,65,78,89,32,87,73,84,72,73,78,32,57]
theorem qb14:qbB (lq CX).1=true:=by decide+kernel
theorem ok14 (h:Nat):(pV (jB h) CX).2=true:=by kernel_rfl
theorem st14 (h:Nat):(pV (jB h) CX).1.aP=3:=by kernel_rfl
end Go.Proofs.Ytbjnhllkdilpfaa
