/- Part 3 of the proof. No conditions. -/
import Derived.Test.YtbjnhllkdilpfaaZc32
import Derived.Test.YtbjnhllkdilpfaaZc26
namespace Go.Proofs.Ytbjnhllkdilpfaa
open Go.RowKit
set_option maxRecDepth 100000
set_option maxHeartbeats 16000000
set_option linter.unusedVariables false
set_option linter.unusedSimpArgs false
section
set_option maxRecDepth 100000
set_option maxHeartbeats 16000000
theorem zAn {d:Nat} {S S':Nat->Prop} {aC:Int} {ks:List Int} {bs:List bQ} {cs cs':List Value} {w:World} (h1:mP d S aC ks bs cs w) (h2:mP d S' aC ks bs cs' w):Calls Try.prog 14 #[.agg cs.toArray,.agg cs'.toArray] w (Yes w):=by
 obtain⟨_,_,rfl,⟨Ak,ck,rfl,hkl,hk⟩,⟨Ab,cb,rfl,hbl,hb⟩⟩:=h1;obtain⟨_,_,rfl,⟨Ux,Pg,rfl,_,hk'⟩,⟨Uy,cb',rfl,_,hb'⟩⟩:=h2
 go_enter Try.func14,Try.ntmps14
 go_upto_region 1 with fail
 obtain⟨nk,hnk⟩:∃z,ks.length=z:=⟨_,rfl⟩
 obtain⟨n,hn⟩:∃z,bs.length=z:=⟨_,rfl⟩
 rw[hnk,hn];rw[hnk]at hkl;rw[hn]at hbl;obtain⟨w0,hw0⟩:∃z,(w.alloc (.cells #[.int .i64 aC,.slice Ak nk ck,.slice Ab n cb] 25)).alloc (.cells #[.int .i64 aC,.slice Ux nk Pg,.slice Uy n cb'] 25)=z:=⟨_,rfl⟩
 obtain⟨g1,hg1⟩:∃z,w.heap.size=z:=⟨_,rfl⟩
 have k1:Bk w0 g1 25 #[.int .i64 aC,.slice Ak nk ck,.slice Ab n cb]:=hw0▸hg1▸(Bk.new _ _ _).alloc _;have k2:Bk w0 (g1+1) 25 #[.int .i64 aC,.slice Ux nk Pg,.slice Uy n cb']:=hw0▸Bk.newAt (by simp;omega) _ _;have hb0:Below w.heap.size w w0:=hw0▸bel2 w _ _;simp only[hw0,hg1];have HR:=zH (And.intro (And.intro (hk.old hb0) (hk'.old hb0)) (And.intro (hb.old hb0) (hb'.old hb0)));have HB:=zH hb0;have HN:=zH (And.intro hnk hn);have HK:=zH (And.intro k1 k2);have x0:=k1.cell 0;have x1:=k1.cell 1;have x2:=k1.cell 2;have y0:=k2.cell 0;have y1:=k2.cell 1;have y2:=k2.cell 2;clear hw0 hg1 k1 k2 hb0 hk hk' hb hb' hnk hn;go_wp2_with fail
 clear x0 x1 x2 y0 y1 y2
 go_loopw[36] (fun i wr=>∃(k:Nat),k<=nk/\i=.int .i64 k/\Hid (Below w0.heap.size w0 wr)) (fun i _=>nk-(intOf i).toNat)
 case atStart=>exact⟨0,Nat.zero_le _,rfl,zH zR⟩
 case round=>
  obtain⟨wq,rfl⟩:∃z:World,z=wr:=⟨_,rfl⟩
  obtain⟨k,hk,rfl,hbel⟩:=hrel;have x1:wq.cell? ⟨g1,1,none⟩=some (.slice Ak nk ck):=(HK.out.1.old hbel.out).cell 1;have y1:wq.cell? ⟨g1+1,1,none⟩=some (.slice Ux nk Pg):=(HK.out.2.old hbel.out).cell 1
  by_cases hlt:k<nk
  ·have hlb:k<ks.length:=by rw[HN.out.1];exact hlt
   obtain⟨b,o,cs,rfl,_,hb,rfl,hc⟩:=(HR.out.1.1.old hbel.out).elem hlb;obtain⟨b2,o2,cs2,rfl,_,hb2,rfl,hd⟩:=(HR.out.1.2.old hbel.out).elem hlb;generalize ks[k]=ty at *;have r0:wq.cell? ⟨b,o+k,none⟩=some (.int .i64 ty):=by simpa using hc 0 _ rfl
   have s0:wq.cell? ⟨b2,o2+k,none⟩=some (.int .i64 ty):=by simpa using hd 0 _ rfl
   clear hc hd HR hlb;go_upto_region 6 with fail
   refine wx (fun k => false) [.is (.pointer (some ⟨g1, 1, none⟩)),
     .is (.slice (some ⟨b,o,none⟩) nk ck),
     .is (.int .i64 (k:Nat)),
     .is (.pointer (some ⟨b,o+k,none⟩)),
     .is (.int .i64 ty),
     .is (.pointer (some ⟨g1+1,1,none⟩)),
     .is (.slice (some ⟨b2,o2,none⟩) nk Pg),
     .is (.int .i64 (k:Nat)),
     .is (.pointer (some ⟨b2,o2+k,none⟩)),
     .is (.int .i64 ty),
     .is (.bool false)] [3,8,10] (by kernel_rfl) (by kernel_rfl) (by kernel_rfl)
     (fun C=>.c (px C rfl (fun _ _=>rfl)) <|
     .c (px C rfl (fun _ h=>bW (Eg (bc h x1)))) <|
     .c (px C rfl (fun _ _=>rfl)) <|
     .c (pz [1,2] [] (by kernel_rfl) fun qK qa wr hB qO qF hK=>?_) <|
     .c (px C rfl (fun _ h=>bW (lJ (bc h r0)))) <|
     .c (px C rfl (fun _ _=>rfl)) <|
     .c (px C rfl (fun _ h=>bW (Eg (bc h y1)))) <|
     .c (px C rfl (fun _ _=>rfl)) <|
     .c (pz [6,7] [] (by kernel_rfl) fun qK qa wr hB qO qF hK=>?_) <|
     .c (px C rfl (fun _ h=>bW (lJ (bc h s0)))) <|
     .c (pz [4,9] [] (by kernel_rfl) fun qK qa wr hB qO qF hK=>?_) <| .nil) ?_
   ·have e40:=ay qF.1 rfl rfl;have e41:=ay qF.2.1 rfl rfl;clear qO qF;go_simp;refine hK _ _ zR ?_
    show(_:Value)=_
    first|rfl|(simp;done)|(simp;omega)
   ·have e45:=ay qF.1 rfl rfl;have e46:=ay qF.2.1 rfl rfl;clear qO qF;go_simp;refine hK _ _ zR ?_
    show(_:Value)=_
    first|rfl|(simp;done)|(simp;omega)
   ·have e43:=ay qF.1 rfl rfl;have e48:=ay qF.2.1 rfl rfl;clear qO qF;go_simp;refine hK _ _ zR ?_
    show(_:Value)=_
    first|rfl|(simp;done)|(simp;omega)
   intro qx wr hB hR hS;clear hR hS;simp only[bJ,List.take_succ_cons,List.take_zero,List.drop_succ_cons,List.drop_zero,List.toList_toArray,List.length_cons,List.length_nil,Act.put,List.setIfInBounds_toArray,List.set_cons_zero,List.set_cons_succ];refine zn ?_;go_wp2_with fail
   go_roundw
   case rel=>exact⟨k+1,hlt,by go_num,zH (hbel.out.trans (hB.mono hbel.out.size))⟩
   case measure=>simp[intOf];omega
  ·obtain rfl:k=nk:=by omega
   have x2:wq.cell? ⟨g1,2,none⟩=some (.slice Ab n cb):=(HK.out.1.old hbel.out).cell 2;go_wp2_with fail
   clear x1 y1 x2
   go_loopw[54] (fun i wr=>∃(k:Nat),k<=n/\i=.int .i64 k/\Hid (Below w0.heap.size w0 wr)) (fun i _=>n-(intOf i).toNat)
   case atStart=>exact⟨0,Nat.zero_le _,rfl,hbel⟩
   case round=>
    clear hbel;obtain⟨wp,rfl⟩:∃z:World,z=wr:=⟨_,rfl⟩
    obtain⟨k,hk,rfl,hbel⟩:=hrel;have x2:wp.cell? ⟨g1,2,none⟩=some (.slice Ab n cb):=(HK.out.1.old hbel.out).cell 2;have y2:wp.cell? ⟨g1+1,2,none⟩=some (.slice Uy n cb'):=(HK.out.2.old hbel.out).cell 2
    by_cases hlt:k<n
    ·have hlb:k<bs.length:=by rw[HN.out.2];exact hlt
     obtain⟨b,o,cs,rfl,_,hb,hP,hc⟩:=(HR.out.2.1.old hbel.out).elem hlb;obtain⟨b2,o2,cs2,rfl,_,hb2,hP2,hd⟩:=(HR.out.2.2.old hbel.out).elem hlb;generalize bs[k]=st at *;obtain⟨_,rfl,A7,c7,rfl,hel,h7⟩:=hP;obtain⟨_,rfl,B7,d7,rfl,_,k7⟩:=hP2;obtain⟨lD,win,parts⟩:=st;simp only[]at *;have HE:=zH (And.intro h7 k7);obtain⟨np,hne⟩:∃z,parts.length=z:=⟨_,rfl⟩
     rw[hne]at hc hd hel;have HNE:=zH hne;have p0:wp.cell? ⟨b,o+k*3,none⟩=some (.int .i64 (lD:Nat)):=hc 0 _ rfl;have p1:wp.cell? ⟨b,o+k*3+1,none⟩=some (.int .i64 win):=hc 1 _ rfl;have p2:wp.cell? ⟨b,o+k*3+2,none⟩=some (.slice A7 np c7):=hc 2 _ rfl;have q0:wp.cell? ⟨b2,o2+k*3,none⟩=some (.int .i64 (lD:Nat)):=hd 0 _ rfl;have q1:wp.cell? ⟨b2,o2+k*3+1,none⟩=some (.int .i64 win):=hd 1 _ rfl;have q2:wp.cell? ⟨b2,o2+k*3+2,none⟩=some (.slice B7 np d7):=hd 2 _ rfl;clear hc hd h7 k7 hne hlb;go_upto_region 12 with fail
     go_cut[7,8] (fun v7 v8 wx=>∃g7 g8,v7=.pointer (some ⟨g7,0,none⟩)/\v8=.pointer (some ⟨g8,0,none⟩)/\Hid (Below wp.heap.size wp wx/\Bk wx g7 28 #[.int .i64 (lD:Nat),.int .i64 win,.slice A7 np c7]/\Bk wx g8 28 #[.int .i64 (lD:Nat),.int .i64 win,.slice B7 np d7]))
     case first=>
      go_region_held3(fun w'=>w'.cell? ⟨g1,2,none⟩=some (.slice (some ⟨b,o,none⟩) n cb)/\w'.cell? ⟨g1+1,2,none⟩=some (.slice (some ⟨b2,o2,none⟩) n cb')/\w'.cell? ⟨b,o+k*3,none⟩=some (.int .i64 (lD:Nat))/\w'.cell? ⟨b,o+k*3+1,none⟩=some (.int .i64 win)/\w'.cell? ⟨b,o+k*3+2,none⟩=some (.slice A7 np c7)/\w'.cell? ⟨b2,o2+k*3,none⟩=some (.int .i64 (lD:Nat))/\w'.cell? ⟨b2,o2+k*3+1,none⟩=some (.int .i64 win)/\w'.cell? ⟨b2,o2+k*3+2,none⟩=some (.slice B7 np d7)) (go_keep) (fail)
      all_goals
       go_wp2_with fail
       go_meet
       exact⟨_,_,rfl,rfl,zH ⟨((ba _ _).trans ((ba _ _).mono (by simp))).drew,by first|exact(Bk.new _ _ _).alloc _|exact Bk.newAt (by simp) _ _,by first|exact(Bk.new _ _ _).alloc _|exact Bk.newAt (by simp) _ _⟩⟩
     case rest=>
     obtain⟨g7,g8,rfl,rfl,HC⟩:=hcut;clear x2 y2 p0 p1 p2 q0 q1 q2;have HQ:=zH HC.out;have x0:=HC.out.2.1.cell 0;have x1:=HC.out.2.1.cell 1;have x7:=HC.out.2.1.cell 2;have y0:=HC.out.2.2.cell 0;have y1:=HC.out.2.2.cell 1;have y7:=HC.out.2.2.cell 2;obtain⟨w2,rfl⟩:∃z:World,z=wc:=⟨_,rfl⟩
     go_wp2_with fail
     clear x0 x1 y0 y1;clear x7 y7
     go_loopw[91] (fun i wr=>∃(j:Nat),j<=np/\i=.int .i64 j/\Hid (Below w2.heap.size w2 wr)) (fun i _=>np-(intOf i).toNat)
     case atStart=>exact⟨0,Nat.zero_le _,rfl,zH zR⟩
     case round=>
      obtain⟨wl,rfl⟩:∃z:World,z=wr:=⟨_,rfl⟩
      obtain⟨j,hj,rfl,hbj⟩:=hrel
      by_cases hjl:j<np
      ·have hje:j<parts.length:=by rw[HNE.out];exact hjl
       have hbw:=HQ.out.1.trans (hbj.out.mono HQ.out.1.size);obtain⟨e,f,cs,rfl,_,_,⟨v2,v3,rfl,i1,i2⟩,hc⟩:=(HE.out.1.old hbw).elem hje;obtain⟨e2,f2,cs2,rfl,_,_,⟨u2,u3,rfl,i3,i4⟩,hd⟩:=(HE.out.2.old hbw).elem hje;have Oa:=zH fun w' (hw:Below wl.heap.size wl w')=>uV d (i1.keep (.old hw)) (i3.keep (.old hw))
       have Pn:=zH fun w' (hw:Below wl.heap.size wl w')=>uV d (i2.keep (.old hw)) (i4.keep (.old hw))
       generalize parts[j].form=fo at *;generalize parts[j].type=ty at *;have x7:wl.cell? ⟨g7,2,none⟩=some (.slice (some ⟨e,f,none⟩) np c7):=(HQ.out.2.1.old hbj.out).cell 2;have y7:wl.cell? ⟨g8,2,none⟩=some (.slice (some ⟨e2,f2,none⟩) np d7):=(HQ.out.2.2.old hbj.out).cell 2;have p0:wl.cell? ⟨e,f+j*4,none⟩=some (.int .i64 (fo:Nat)):=hc 0 _ rfl;have p1:wl.cell? ⟨e,f+j*4+1,none⟩=some (.int .i64 ty):=hc 1 _ rfl;have p2:wl.cell? ⟨e,f+j*4+2,none⟩=some v2:=hc 2 _ rfl;have p3:wl.cell? ⟨e,f+j*4+3,none⟩=some v3:=hc 3 _ rfl;have q0:wl.cell? ⟨e2,f2+j*4,none⟩=some (.int .i64 (fo:Nat)):=hd 0 _ rfl;have q1:wl.cell? ⟨e2,f2+j*4+1,none⟩=some (.int .i64 ty):=hd 1 _ rfl;have q2:wl.cell? ⟨e2,f2+j*4+2,none⟩=some u2:=hd 2 _ rfl;have q3:wl.cell? ⟨e2,f2+j*4+3,none⟩=some u3:=hd 3 _ rfl;clear hc hd i1 i2 i3 i4 HE HQ hje hbw;go_upto_region 18 with fail
       refine wx (fun k => false) (.is (.pointer (some ⟨g7, 2, none⟩)) ::
         .is (.slice (some ⟨e,f,none⟩) np c7)::
         .is (.int .i64 (j:Nat))::
         .is (.pointer (some ⟨e,f+j*4,none⟩))::
         .is (.pointer (some ⟨e,f+j*4,none⟩))::
         .is (.int .i64 (fo:Nat))::
         .is (.pointer (some ⟨g8,2,none⟩))::
         .is (.slice (some ⟨e2,f2,none⟩) np d7)::
         .is (.int .i64 (j:Nat))::
         .is (.pointer (some ⟨e2,f2+j*4,none⟩))::
         .is (.pointer (some ⟨e2,f2+j*4,none⟩))::
         .is (.int .i64 (fo:Nat))::
         .is (.bool false)::
         .is (.bool false)::
         .is (.pointer (some ⟨g7,2,none⟩))::
         .is (.slice (some ⟨e,f,none⟩) np c7)::
         .is (.int .i64 (j:Nat))::
         .is (.pointer (some ⟨e,f+j*4,none⟩))::
         .is (.pointer (some ⟨e,f+j*4+1,none⟩))::
         .is (.int .i64 ty)::
         .is (.pointer (some ⟨g8,2,none⟩))::
         .is (.slice (some ⟨e2,f2,none⟩) np d7)::
         .is (.int .i64 (j:Nat))::
         .is (.pointer (some ⟨e2,f2+j*4,none⟩))::
         .is (.pointer (some ⟨e2,f2+j*4+1,none⟩))::
         .is (.int .i64 ty)::
         .is (.bool false)::
         .is (.bool false)::
         .is (.bool false)::
         .is (.pointer (some ⟨g7,2,none⟩))::
         .is (.slice (some ⟨e,f,none⟩) np c7)::
         .is (.int .i64 (j:Nat))::
         [.is (.pointer (some ⟨e,f+j*4,none⟩)),
         .is (.pointer (some ⟨e,f+j*4+2,none⟩)),
         .is (v2),
         .is (.pointer (some ⟨g8,2,none⟩)),
         .is (.slice (some ⟨e2,f2,none⟩) np d7),
         .is (.int .i64 (j:Nat)),
         .is (.pointer (some ⟨e2,f2+j*4,none⟩)),
         .is (.pointer (some ⟨e2,f2+j*4+2,none⟩)),
         .is (u2),
         .is (.bool true),
         .is (.bool false),
         .is (.bool false),
         .is (.bool false),
         .is (.pointer (some ⟨g7,2,none⟩)),
         .is (.slice (some ⟨e,f,none⟩) np c7),
         .is (.int .i64 (j:Nat)),
         .is (.pointer (some ⟨e,f+j*4,none⟩)),
         .is (.pointer (some ⟨e,f+j*4+3,none⟩)),
         .is (v3),
         .is (.pointer (some ⟨g8,2,none⟩)),
         .is (.slice (some ⟨e2,f2,none⟩) np d7),
         .is (.int .i64 (j:Nat)),
         .is (.pointer (some ⟨e2,f2+j*4,none⟩)),
         .is (.pointer (some ⟨e2,f2+j*4+3,none⟩)),
         .is (u3),
         .is (.bool true),
         .is (.bool false),
         .is (.bool false)]) [3,9,12,17,23,26,32,38,41,48,54,57] (by kernel_rfl) (by kernel_rfl) (by kernel_rfl)
         (fun C=>.c (px C rfl (fun _ _=>rfl)) <|
         .c (px C rfl (fun _ h=>bW (Cc (bc h x7)))) <|
         .c (px C rfl (fun _ _=>rfl)) <|
         .c (pz [1,2] [] (by kernel_rfl) fun qK qa wr hB qO qF hK=>?_) <|
         .c (px C rfl (fun _ _=>rfl)) <|
         .c (px C rfl (fun _ h=>bW (lJ (bc h p0)))) <|
         .c (px C rfl (fun _ _=>rfl)) <|
         .c (px C rfl (fun _ h=>bW (Cc (bc h y7)))) <|
         .c (px C rfl (fun _ _=>rfl)) <|
         .c (pz [7,8] [] (by kernel_rfl) fun qK qa wr hB qO qF hK=>?_) <|
         .c (px C rfl (fun _ _=>rfl)) <|
         .c (px C rfl (fun _ h=>bW (lJ (bc h q0)))) <|
         .c (pz [5,11] [] (by kernel_rfl) fun qK qa wr hB qO qF hK=>?_) <|
         .c (px C rfl (fun _ _=>rfl)) <|
         .c (px C rfl (fun _ _=>rfl)) <|
         .c (px C rfl (fun _ h=>bW (Cc (bc h x7)))) <|
         .c (px C rfl (fun _ _=>rfl)) <|
         .c (pz [15,16] [] (by kernel_rfl) fun qK qa wr hB qO qF hK=>?_) <|
         .c (px C rfl (fun _ _=>rfl)) <|
         .c (px C rfl (fun _ h=>bW (lJ (bc h p1)))) <|
         .c (px C rfl (fun _ _=>rfl)) <|
         .c (px C rfl (fun _ h=>bW (Cc (bc h y7)))) <|
         .c (px C rfl (fun _ _=>rfl)) <|
         .c (pz [21,22] [] (by kernel_rfl) fun qK qa wr hB qO qF hK=>?_) <|
         .c (px C rfl (fun _ _=>rfl)) <|
         .c (px C rfl (fun _ h=>bW (lJ (bc h q1)))) <|
         .c (pz [19,25] [] (by kernel_rfl) fun qK qa wr hB qO qF hK=>?_) <|
         .c (px C rfl (fun _ _=>rfl)) <|
         .c (px C rfl (fun _ _=>rfl)) <|
         .c (px C rfl (fun _ _=>rfl)) <|
         .c (px C rfl (fun _ h=>bW (Cc (bc h x7)))) <|
         .c (px C rfl (fun _ _=>rfl)) <|
         .c (pz [30,31] [] (by kernel_rfl) fun qK qa wr hB qO qF hK=>?_) <|
         .c (px C rfl (fun _ _=>rfl)) <|
         .c (px C rfl (fun _ h=>bW (mM (bc h p2)))) <|
         .c (px C rfl (fun _ _=>rfl)) <|
         .c (px C rfl (fun _ h=>bW (Cc (bc h y7)))) <|
         .c (px C rfl (fun _ _=>rfl)) <|
         .c (pz [36,37] [] (by kernel_rfl) fun qK qa wr hB qO qF hK=>?_) <|
         .c (px C rfl (fun _ _=>rfl)) <|
         .c (px C rfl (fun _ h=>bW (mM (bc h q2)))) <|
         .c (pz [34,40] [] (by kernel_rfl) fun qK qa wr hB qO qF hK=>?_) <|
         .c (px C rfl (fun _ _=>rfl)) <|
         .c (px C rfl (fun _ _=>rfl)) <|
         .c (px C rfl (fun _ _=>rfl)) <|
         .c (px C rfl (fun _ _=>rfl)) <|
         .c (px C rfl (fun _ h=>bW (Cc (bc h x7)))) <|
         .c (px C rfl (fun _ _=>rfl)) <|
         .c (pz [46,47] [] (by kernel_rfl) fun qK qa wr hB qO qF hK=>?_) <|
         .c (px C rfl (fun _ _=>rfl)) <|
         .c (px C rfl (fun _ h=>bW (mM (bc h p3)))) <|
         .c (px C rfl (fun _ _=>rfl)) <|
         .c (px C rfl (fun _ h=>bW (Cc (bc h y7)))) <|
         .c (px C rfl (fun _ _=>rfl)) <|
         .c (pz [52,53] [] (by kernel_rfl) fun qK qa wr hB qO qF hK=>?_) <|
         .c (px C rfl (fun _ _=>rfl)) <|
         .c (px C rfl (fun _ h=>bW (mM (bc h q3)))) <|
         .c (pz [50,56] [] (by kernel_rfl) fun qK qa wr hB qO qF hK=>?_) <|
         .c (px C rfl (fun _ _=>rfl)) <|
         .c (px C rfl (fun _ _=>rfl)) <| .nil) ?_
       ·have e95:=ay qF.1 rfl rfl;have e96:=ay qF.2.1 rfl rfl;clear qO qF;go_simp;refine hK _ _ zR ?_
        show(_:Value)=_
        first|rfl|(simp;done)|(simp;omega)
       ·have e101:=ay qF.1 rfl rfl;have e102:=ay qF.2.1 rfl rfl;clear qO qF;go_simp;refine hK _ _ zR ?_
        show(_:Value)=_
        first|rfl|(simp;done)|(simp;omega)
       ·have e99:=ay qF.1 rfl rfl;have e105:=ay qF.2.1 rfl rfl;clear qO qF;go_simp;refine hK _ _ zR ?_
        show(_:Value)=_
        first|rfl|(simp;done)|(simp;omega)
       ·have e109:=ay qF.1 rfl rfl;have e110:=ay qF.2.1 rfl rfl;clear qO qF;go_simp;refine hK _ _ zR ?_
        show(_:Value)=_
        first|rfl|(simp;done)|(simp;omega)
       ·have e115:=ay qF.1 rfl rfl;have e116:=ay qF.2.1 rfl rfl;clear qO qF;go_simp;refine hK _ _ zR ?_
        show(_:Value)=_
        first|rfl|(simp;done)|(simp;omega)
       ·have e113:=ay qF.1 rfl rfl;have e119:=ay qF.2.1 rfl rfl;clear qO qF;go_simp;refine hK _ _ zR ?_
        show(_:Value)=_
        first|rfl|(simp;done)|(simp;omega)
       ·have e124:=ay qF.1 rfl rfl;have e125:=ay qF.2.1 rfl rfl;clear qO qF;go_simp;refine hK _ _ zR ?_
        show(_:Value)=_
        first|rfl|(simp;done)|(simp;omega)
       ·have e130:=ay qF.1 rfl rfl;have e131:=ay qF.2.1 rfl rfl;clear qO qF;go_simp;refine hK _ _ zR ?_
        show(_:Value)=_
        first|rfl|(simp;done)|(simp;omega)
       ·have e128:=ay qF.1 rfl rfl;have e134:=ay qF.2.1 rfl rfl;clear qO qF;go_simp
        go_at_call 24
        refine(Oa.out wr hB).mono ?_;rintro r w9 ⟨rfl,dO⟩;exact hK _ _ dO rfl
       ·have e140:=ay qF.1 rfl rfl;have e141:=ay qF.2.1 rfl rfl;clear qO qF;go_simp;refine hK _ _ zR ?_
        show(_:Value)=_
        first|rfl|(simp;done)|(simp;omega)
       ·have e146:=ay qF.1 rfl rfl;have e147:=ay qF.2.1 rfl rfl;clear qO qF;go_simp;refine hK _ _ zR ?_
        show(_:Value)=_
        first|rfl|(simp;done)|(simp;omega)
       ·have e144:=ay qF.1 rfl rfl;have e150:=ay qF.2.1 rfl rfl;clear qO qF;go_simp
        go_at_call 24
        refine(Pn.out wr hB).mono ?_;rintro r w9 ⟨rfl,dO⟩;exact hK _ _ dO rfl
       intro qx wr hB hR hS;clear hR hS;simp only[bJ,List.take_succ_cons,List.take_zero,List.drop_succ_cons,List.drop_zero,List.toList_toArray,List.length_cons,List.length_nil,Act.put,List.setIfInBounds_toArray,List.set_cons_zero,List.set_cons_succ];refine zn ?_;go_wp2_with fail
       go_roundw
       case rel=>exact⟨j+1,hjl,by go_num,zH (hbj.out.trans (hB.mono hbj.out.size))⟩
       case measure=>simp[intOf];omega
      ·obtain rfl:j=np:=by omega
       go_wp2_with fail
       go_roundw
       case rel=>exact⟨k+1,hlt,by go_num,zH (hbel.out.trans (((HQ.out.1.trans (hbj.out.mono HQ.out.1.size))).mono hbel.out.size))⟩
       case measure=>simp[intOf];omega
    ·obtain rfl:k=n:=by omega
     go_wp2_with fail
     go_ret
     exact⟨rfl,HB.out.trans (hbel.out.mono HB.out.size)⟩
end
end Go.Proofs.Ytbjnhllkdilpfaa
namespace Go.Proofs.Ytbjnhllkdilpfaa
open Go.ChangeShapes Go.WideShapes Go.ChangeAt Go.RowKit
section
variable {H:Type} (enc:TypeId×Value->H) (P:Program) (w:World)
variable {enc P w} {N:Nat} {t:TypeId} {R R':List Value->Prop}
theorem zB0 {k:IntKind} (ht:P.underlying t=some (.int k)):BP enc P w N t (fun cs=>∃n,cs=[.int k n]/\(Lit.int k n).wf=true):=by
 intro fuel _ cs y hy _;obtain⟨n,h1,_,h2⟩:=DataW.trod_int ht hy;exact⟨n,h1,h2⟩
theorem zCd (ht:P.underlying t=some .bool):BP enc P w N t (fun cs=>∃b,cs=[.bool b]):=by
 intro fuel _ cs y hy _;obtain⟨b,h1,_⟩:=DataW.trod_bool ht hy;exact⟨b,h1⟩
theorem zB2 {e:TypeId}:∀{l:List (DataW H)},(DataW.weightsAll P e l).all (·<=reachBytes)=true->∀d∈l,(d.weights P e).all (·<=reachBytes)=true
 |[],_,d,hd=>by cases hd
 |x::l,h,d,hd=>by
  simp only[DataW.weightsAll,List.all_append,Bool.and_eq_true]at h;rcases List.mem_cons.1 hd with rfl|hd
  ·exact h.1
  ·exact zB2 h.2 d hd
theorem zBx:∀{ts:List TypeId} {l:List (DataW H)} {i:Nat} {t:TypeId} {d:DataW H},(DataW.weightsEach P ts l).all (·<=reachBytes)=true->ts[i]? =some t->l[i]? =some d->(d.weights P t).all (·<=reachBytes)=true
 |t0::ts,d0::l,0,t,d,h,ht,hd=>by
  simp only[DataW.weightsEach,List.all_append,Bool.and_eq_true]at h;simp only[List.getElem?_cons_zero,Option.some.injEq]at ht hd;subst ht;subst hd;exact h.1
 |t0::ts,d0::l,i+1,t,d,h,ht,hd=>by
  simp only[DataW.weightsEach,List.all_append,Bool.and_eq_true]at h;simp only[List.getElem?_cons_succ]at ht hd;exact zBx h.2 ht hd
 |[],_,_,_,_,_,ht,_=>by simp at ht
 |_::_,[],_,_,_,_,_,hd=>by simp at hd
end
section
variable {H:Type} {enc:TypeId×Value->H} {P:Program} {w:World} {N:Nat} {t:TypeId}
end
section
variable {H:Type} {enc:TypeId×Value->H} {P:Program} {w:World} {N:Nat} {t:TypeId} {R R':List Value->Prop}
end
end Go.Proofs.Ytbjnhllkdilpfaa
namespace Go.Proofs.Ytbjnhllkdilpfaa
open Go.ChangeShapes Go.WideShapes Go.ChangeAt Go.RowKit
theorem zB1 {H:Type} {d:DataW H} {l:List (DataW H)} (h:d∈l):Rows.uptoBulk d<=Rows.uptoBulkAll l:=by
 induction l with
 |nil=>cases h
 |cons x r ih=>
  simp only[Rows.uptoBulkAll];cases List.mem_cons.1 h with
  |inl e=>subst e;omega
  |inr e=>have:=ih e;omega
theorem zCn {H:Type} (d:DataW H):1<=Rows.uptoBulk d:=by
 cases d with
 |lit l=>cases l<;>simp[Rows.uptoBulk]
 |nil=>simp[Rows.uptoBulk]
 |ptr d=>simp[Rows.uptoBulk]
 |slice elems spare=>simp[Rows.uptoBulk]
 |agg parts=>simp[Rows.uptoBulk]
 |iface t d=>simp[Rows.uptoBulk]
 |map entries=>simp[Rows.uptoBulk]
 |held h=>simp[Rows.uptoBulk]
theorem zCp {H:Type} (l:List (DataW H)):l.length<=Rows.uptoBulkAll l:=by
 induction l with
 |nil=>simp[Rows.uptoBulkAll]
 |cons x r ih=>have:=zCn x;simp only[Rows.uptoBulkAll,List.length_cons];omega
section
variable {H:Type} (enc:TypeId×Value->H) (P:Program) (w:World)
variable {enc P w} {N:Nat} {t:TypeId} {R R':List Value->Prop}
theorem zBu:yu enc P w 0 t R:=by
 intro fuel hf cs y hy;obtain rfl:fuel=0:=by omega
 simp[DataW.trod]at hy
theorem zBv {fs : Array Field} {ts : List (TypeId × Nat)} (ht : P.underlying t = some (.struct fs)) (h : fs.toList.map (fun f => (f.type, f.offset)) = ts) {F : Nat → List Value → Prop}
  (hF:∀(i:Nat) (p:TypeId×Nat),ts[i]? =some p->yu enc P w N p.1 (F i)):
  yu enc P w (N+1) t (fun cs=>cs.length=P.cellsOf t/\∀(i:Nat) (p:TypeId×Nat),ts[i]? =some p->F i ((cs.drop p.2).take (P.cellsOf p.1))):=by
 intro fuel hf cs y hy hw hb;obtain⟨xs,n,hn,hx,hl,hlx,hg⟩:=DataW.trod_struct ht hy;subst hx;refine⟨hl,fun i p hi=>?_⟩;rw[<-h,List.getElem?_map]at hi;obtain⟨f,hfi,rfl⟩:=Option.map_eq_some_iff.1 hi;have hfi:fs[i]? =some f:=by simpa using hfi
 have hlt:i<fs.size:=(Array.getElem?_eq_some_iff.1 hfi).1;have hy:=hg i f hfi;rw[List.getElem?_eq_getElem (by omega)]at hy;refine hF i (f.type,f.offset) (by rw[<-h,List.getElem?_map];simp[hfi]) n (by omega) _ _ hy ?_ ?_
 ·simp only[DataW.weights,ht]at hw;refine zBx hw (i:=i) ?_ ?_
  ·rw[List.getElem?_map];have:fs.toList[i]? =some f:=by simpa using hfi
   rw[this];rfl
  ·rw[List.getElem?_map,List.getElem?_eq_getElem (by omega)];rfl
 ·simp only[Rows.uptoBulk]at hb;have:=zB1 (List.mem_map_of_mem (f:=fun x:DataW H×List MemPlace=>x.1) (List.getElem_mem (l:=xs) (by omega:i<xs.length)));omega
theorem zBy {e : TypeId} {n : Nat} {α : Type} {f : α → List Value} {Q : α → Prop} (ht : P.underlying t = some (.slice e)) (hn : P.cellsOf e = n) (hpos : 0 < n) (hlen : ∀ x, (f x).length = n)
  (he:yu enc P w N e (fun cs=>∃x,cs=f x/\Q x)):
  yu enc P w (N+1) t (fun cs=>∃(A:Option Addr) (c:Nat) (l:List α),cs=[.slice A l.length c]/\l.length<=c/\l.length<=1048576/\Rd w w.heap.size A (l.flatMap f)/\∀x∈l,Q x):=by
 intro fuel hf cs y hy hw hbk;rcases DataW.trod_slice ht hy with⟨hcs,_⟩|⟨a,len,cap,elems,rest,m,hm,hcs,hx,_,hlc,_,hel,hcell,hsp,_⟩
 ·exact⟨none,0,[],hcs,Nat.le_refl _,by simp,Rd.nil,by simp⟩
 subst hx;simp only[DataW.weights,ht,List.all_cons,List.all_append,Bool.and_eq_true]at hw;obtain⟨hw0,hw1,hw2⟩:=hw;simp only[Rows.uptoBulk]at hbk;have hlb:=zCp (elems.map (·.1));rw[List.length_map]at hlb
 have each:∀i,i<len->∃x:α,w.cells? 0 (a.add (i*n)) n=some (f x)/\Q x:=by
  intro i hi;have h1:=hcell i hi;rw[List.getElem?_eq_getElem (by omega),hn]at h1;obtain⟨cs',h2,h3⟩:=Option.bind_eq_some_iff.1 h1;have hmem:=List.mem_map_of_mem (f:=fun x:DataW H×List MemPlace=>x.1) (List.getElem_mem (l:=elems) (by omega:i<elems.length));obtain⟨x,rfl,hq⟩:=he m (by omega) cs' _ h3 (zB2 hw1 _ hmem) (by have:=zB1 hmem;omega);exact⟨x,h2,hq⟩
 obtain⟨l,hl,hall⟩:∃l:List α,l.length=len/\∀i (hi:i<l.length),w.cells? 0 (a.add (i*n)) n=some (f l[i])/\Q l[i]:=by
  refine⟨(List.range len).attach.map fun i=>(each i.1 (List.mem_range.1 i.2)).choose,by simp,fun i hi=>?_⟩;simp only[List.getElem_map,List.getElem_attach,List.getElem_range];exact(each i (by simpa using hi)).choose_spec
 subst hl;refine⟨some a,cap,l,hcs,hlc,by omega,?_,?_⟩
 ·rcases Nat.eq_zero_or_pos l.length with h0|h0
  ·have:l=[]:=List.eq_nil_of_length_eq_zero h0;subst this;exact .inl rfl
  have h00:=World.cells?_some (hall 0 h0).1;have hv:=h00.2.2 0 hpos;rw[List.getElem?_eq_getElem (by rw[hlen];exact hpos)]at hv;have ha:(a.add (0*n)).add 0=a:=by simp[Addr.add]
  rw[ha]at hv;have hblk:=World.block_lt_of_cell? w a hv
  have hspot:a.spot=none:=by
   unfold World.cell? at hv
   split at hv
   ·split at hv
    ·cases hv
    ·rename_i h;simpa using h
   ·cases hv
  obtain⟨blk,off,sp⟩:=a;simp only at hspot hblk;subst hspot;refine .inr ⟨blk,off,rfl,hblk,fun j u hu=>?_⟩;have hj:j<l.length*n:=by have:=(List.getElem?_eq_some_iff.1 hu).1;rwa [FH f hlen]at this
  have hdm:j=j/n*n+j%n:=by rw[Nat.mul_comm];exact(Nat.div_add_mod j n).symm
  have hq:j/n<l.length:=(Nat.div_lt_iff_lt_mul hpos).2 hj;have hr:j%n<n:=Nat.mod_lt _ hpos;have hfl:=UY f hlen l (j/n) (j%n) hq hr;rw[<-hdm,hu]at hfl;have hc:=(World.cells?_some (hall (j/n) hq).1).2.2 (j%n) hr;rw[<-hfl,Deep.add_add]at hc
  have e:((⟨blk,off,none⟩:Addr).add (j/n*n+j%n))=⟨blk,off+j,none⟩:=by
   rw[<-hdm];unfold Addr.add
   by_cases h:j=0<;>simp[h]
  rw[e]at hc;exact hc
 ·intro x hx;obtain⟨i,hi,rfl⟩:=List.mem_iff_getElem.1 hx;exact(hall i hi).2
end
end Go.Proofs.Ytbjnhllkdilpfaa
namespace Go.Proofs.Ytbjnhllkdilpfaa
open Go.ChangeShapes Go.WideShapes Go.ChangeAt Go.RowKit
set_option linter.unusedSimpArgs false
set_option linter.unusedVariables false
set_option maxHeartbeats 16000000
set_option maxRecDepth 100000
theorem zVal:∃fs:Array Field,Try.prog.underlying 74=some (.struct fs)/\fs.toList.map (fun f=>(f.type,f.offset))=[(3,0),(72,1)]:=⟨_,Try.underlying74,by kernel_rfl⟩
theorem zDj:∃fs:Array Field,Try.prog.underlying 76=some (.struct fs)/\fs.toList.map (fun f=>(f.type,f.offset))=[(3,0),(3,1),(29,2),(74,3),(3,5),(3,6)]:=⟨_,Try.underlying76,by kernel_rfl⟩
theorem zBar:∃fs:Array Field,Try.prog.underlying 52=some (.struct fs)/\fs.toList.map (fun f=>(f.type,f.offset))=[(3,0),(29,1)]:=⟨_,Try.underlying52,by kernel_rfl⟩
theorem zEnd:∃fs:Array Field,Try.prog.underlying 55=some (.struct fs)/\fs.toList.map (fun f=>(f.type,f.offset))=[(3,0),(29,1),(41,2)]:=⟨_,Try.underlying55,by kernel_rfl⟩
theorem zC7:∃fs:Array Field,Try.prog.underlying 44=some (.struct fs)/\fs.toList.map (fun f=>(f.type,f.offset))=[(3,0),(3,1),(4,2),(2,3),(41,4),(29,5),(29,6),(42,7)]:=⟨_,Try.underlying44,by kernel_rfl⟩
theorem zC2:∃fs:Array Field,Try.prog.underlying 34=some (.struct fs)/\fs.toList.map (fun f=>(f.type,f.offset))=[(3,0),(22,1),(32,2)]:=⟨_,Try.underlying34,by kernel_rfl⟩
theorem zB4:Try.prog.cellsOf 3=1:=by kernel_rfl
theorem zDk:Try.prog.cellsOf 2=1:=by kernel_rfl
theorem zDm:Try.prog.cellsOf 72=1:=by kernel_rfl
theorem zC8:Try.prog.cellsOf 4=1:=by kernel_rfl
theorem zC3:Try.prog.cellsOf 74=2:=by kernel_rfl
theorem zC9:Try.prog.cellsOf 22=1:=by kernel_rfl
theorem zB3:Try.prog.cellsOf 29=1:=by kernel_rfl
theorem zCq:Try.prog.cellsOf 41=1:=by kernel_rfl
theorem zDa:Try.prog.cellsOf 42=1:=by kernel_rfl
theorem zCr:Try.prog.cellsOf 32=1:=by kernel_rfl
theorem zCs:Try.prog.cellsOf 76=7:=by kernel_rfl
theorem zC4:Try.prog.cellsOf 52=2:=by kernel_rfl
theorem zC5:Try.prog.cellsOf 55=3:=by kernel_rfl
theorem zCf:Try.prog.cellsOf 44=8:=by kernel_rfl
theorem zDb:Try.prog.cellsOf 34=3:=by kernel_rfl
theorem ozl2 {cs:List Value} (h:cs.length=2):∃c0 c1,cs=[c0,c1]:=by
 match cs,h with
 |[a,b],_=>exact⟨a,b,rfl⟩
theorem ozl3 {cs:List Value} (h:cs.length=3):∃c0 c1 c2,cs=[c0,c1,c2]:=by
 match cs,h with
 |[a,b,c],_=>exact⟨a,b,c,rfl⟩
theorem ozl7 {cs:List Value} (h:cs.length=7):∃c0 c1 c2 c3 c4 c5 c6,cs=[c0,c1,c2,c3,c4,c5,c6]:=by
 match cs,h with
 |[a,b,c,d,e,f,g],_=>exact⟨a,b,c,d,e,f,g,rfl⟩
theorem ozl8 {cs:List Value} (h:cs.length=8):∃c0 c1 c2 c3 c4 c5 c6 c7,cs=[c0,c1,c2,c3,c4,c5,c6,c7]:=by
 match cs,h with
 |[a,b,c,d,e,f,g,h],_=>exact⟨a,b,c,d,e,f,g,h,rfl⟩
theorem zCt {w:World} {A:Option Addr} {cs:List Value} (h:Rd w w.heap.size A cs):I8 w (fun _=>True) A cs:=by
 rcases h with h|⟨b,o,h1,h2,h3⟩
 ·exact .inl h
 ·exact .inr ⟨b,o,h1,trivial,h2,h3⟩
theorem zCu {w:World} {S:Nat->Prop} {n:au}:∀{k N:Nat},okS S N n w->okS S (N+k) n w
 |0,_,h=>h
 |k+1,N,h=>(zCu (k:=k) h).up
section
variable {H:Type} {enc:TypeId×Value->H} {w:World}
theorem zBw (N:Nat):yu enc Try.prog w N 3 (fun cs=>∃n,cs=[.int .i64 n]/\n<=9223372036854775807):=(zB0 Try.underlying3).b.imp fun cs ⟨n,h,hw⟩=>by
 simp[Lit.wf]at hw;have e2:IntKind.i64.max=9223372036854775807:=by rfl
 exact⟨n,h,by omega⟩
theorem zDc (N:Nat):yu enc Try.prog w N 2 (fun cs=>∃n,cs=[.int .i64 n]):=(zB0 Try.underlying2).b.imp fun cs ⟨n,h,_⟩=>⟨n,h⟩
theorem zDd (N:Nat):yu enc Try.prog w N 72 (fun cs=>∃n:Nat,cs=[.int .u64 n]/\n<18446744073709551616):=(zB0 Try.underlying72).b.imp fun cs ⟨n,h,hw⟩=>by
 simp[Lit.wf]at hw;have e1:IntKind.u64.min=0:=by rfl
 have e2:IntKind.u64.max=18446744073709551615:=by rfl
 exact⟨n.toNat,by rw[Int.toNat_of_nonneg (by omega)];exact h,by omega⟩
theorem zDe (N:Nat):yu enc Try.prog w N 74 (fun cs=>∃(k:Int) (b:Nat),cs=[.int .i64 k,.int .u64 b]/\b<18446744073709551616):=by
 obtain⟨fs,hu,hfs⟩:=zVal;cases N with
 |zero=>exact zBu
 |succ N=>
  refine(zBv (F:=fun i cs=>match i with|0=>∃n,cs=[.int .i64 n]/\n<=9223372036854775807|_=>∃n:Nat,cs=[.int .u64 n]/\n<18446744073709551616) hu hfs ?_).imp ?_
  ·intro i p hi
   match i,hi with
   |0,hi=>simp at hi;subst hi;exact zBw N
   |1,hi=>simp at hi;subst hi;exact zDd N
   |i+2,hi=>simp at hi
  ·rintro cs ⟨hl,hf⟩;rw[zC3]at hl;obtain⟨k,hk,_⟩:=hf 0 _ rfl;obtain⟨b,hb,hlt⟩:=hf 1 _ rfl;obtain⟨c0,c1,rfl⟩:=ozl2 hl;simp[zB4,zDm]at hk hb;subst hk;subst hb;exact⟨k,b,rfl,hlt⟩
theorem zB7 {α : Type} {n : Nat} {P : (Nat → Prop) → α → List Value → World → Prop} [CK n P] {N ts t : Nat} (ht : Try.prog.underlying ts = some (.slice t)) (hn : Try.prog.cellsOf t = n) {Q : α → Prop} (he : yu enc Try.prog w N t (fun cs => ∃ x, P (fun _ => True) x cs w ∧ Q x)) :
  yu enc Try.prog w (N+1) ts (fun cs=>∃(xs:List α) (v:Value),cs=[v]/\Sl P (fun _=>True) xs v w/\xs.length<=1048576/\∀x∈xs,Q x):=
 (zBy (α:={p:α×List Value//p.2.length=n}) (f:=fun p=>p.1.2) (Q:=fun p=>P (fun _=>True) p.1.1 p.1.2 w/\Q p.1.1) ht hn (CK.pos P) (fun p=>p.2) (he.imp fun cs ⟨x,h1,h2⟩=>⟨⟨(x,cs),CK.len h1⟩,rfl,h1,h2⟩)).imp fun cs ⟨A,c,l,h,_,hl,hr,hq⟩=>
  ⟨l.map (fun p=>p.1.1),.slice A l.length c,h,⟨A,c,by rw[List.length_map],by rw[List.length_map];omega,l.map Subtype.val,by rw[List.map_map];rfl,by rw[List.flatMap_map];exact zCt hr,fun p hp=>by
   obtain⟨q,hq2,rfl⟩:=List.mem_map.1 hp
   exact(hq q hq2).1⟩,by rw[List.length_map];exact hl,fun x hx=>by
   obtain⟨q,hq2,rfl⟩:=List.mem_map.1 hx
   exact(hq q hq2).2⟩
theorem zCg {N d : Nat} (h : yu enc Try.prog w N 76 (fun cs => ∃ n : au, cs = n.cells ∧ okS (fun _ => True) d n w)) :
  yu enc Try.prog w (N+1) 29 (fun cs=>∃(A:Option Addr) (c:Nat) (l:List au),cs=[.slice A l.length c]/\l.length<=1048576/\I8 w (fun _=>True) A (l.flatMap au.cells)/\∀x∈l,okS (fun _=>True) d x w):=
 (zBy Try.underlying29 zCs (by omega) au.len h).imp fun cs ⟨A,c,l,h,_,hl,hr,hq⟩=>⟨A,c,l,h,hl,zCt hr,hq⟩
theorem zCa {N d : Nat} (h : yu enc Try.prog w N 29 (fun cs => ∃ (A : Option Addr) (c : Nat) (l : List au), cs = [.slice A l.length c] ∧ l.length ≤ 1048576 ∧ I8 w (fun _ => True) A (l.flatMap au.cells) ∧ ∀ x ∈ l, okS (fun _ => True) d x w)) :
  yu enc Try.prog w (N+1) 76 (fun cs=>∃n:au,cs=n.cells/\okS (fun _=>True) (d+1) n w):=by
 obtain⟨fs,hu,hfs⟩:=zDj;refine(zBv (F:=fun i cs=>match i with|2=>∃(A:Option Addr) (c:Nat) (l:List au),cs=[.slice A l.length c]/\l.length<=1048576/\I8 w (fun _=>True) A (l.flatMap au.cells)/\(∀x∈l,okS (fun _=>True) d x w)|3=>∃(k:Int) (b:Nat),cs=[.int .i64 k,.int .u64 b]/\b<18446744073709551616|_=>∃n,cs=[.int .i64 n]/\n<=9223372036854775807) hu hfs ?_).imp ?_
 ·intro i p hi
  match i,hi with
  |0,hi=>simp at hi;subst hi;exact zBw N
  |1,hi=>simp at hi;subst hi;exact zBw N
  |2,hi=>simp at hi;subst hi;exact h
  |3,hi=>simp at hi;subst hi;exact zDe N
  |4,hi=>simp at hi;subst hi;exact zBw N
  |5,hi=>simp at hi;subst hi;exact zBw N
  |i+6,hi=>simp at hi
 ·rintro cs ⟨hl,hf⟩;rw[zCs]at hl;obtain⟨op,h0,_⟩:=hf 0 _ rfl;obtain⟨kind,h1,_⟩:=hf 1 _ rfl;obtain⟨A,c,l,h2,hlen,hr,hq⟩:=hf 2 _ rfl;obtain⟨vk,vb,h3,hx⟩:=hf 3 _ rfl;obtain⟨pos,h4,_⟩:=hf 4 _ rfl;obtain⟨a,h5,_⟩:=hf 5 _ rfl;obtain⟨c0,c1,c2,c3,c4,c5,c6,rfl⟩:=ozl7 hl;simp[zB4,zB3,zC3]at h0 h1 h2 h3 h4 h5;obtain⟨h3,h3'⟩:=h3;subst h0;subst h1;subst h2;subst h3;subst h3';subst h4;subst h5;exact⟨.mk op kind A c l vk vb pos a,rfl,hr,hlen,hx,hq⟩
theorem zCh:∀N:Nat,yu enc Try.prog w N 76 (fun cs=>∃n:au,cs=n.cells/\okS (fun _=>True) N n w)
 |0=>zBu
 |1=>zCa (d:=0) zBu
 |N+2=>(zCa (zCg (zCh N))).imp fun cs ⟨n,h1,h2⟩=>⟨n,h1,h2.up⟩
variable {D:Nat}
theorem zBz {N:Nat} (hN:N<=D):yu enc Try.prog w N 29 (fun cs=>∃(ts:List T) (v:Value),cs=[v]/\Nd D (fun _=>True) ts v w):=by
 cases N with
 |zero=>exact zBu
 |succ N=>
  obtain⟨k,rfl⟩:∃k,D=N+k:=⟨D-N,by omega⟩
  exact(zCg (zCh N)).imp fun cs ⟨A,c,l,h,hl,hr,hq⟩=>⟨l.map (bz (N+k)),.slice A l.length c,h,A,c,l,rfl,hr,fun y hy=>zCu (hq y hy),rfl,hl⟩
theorem zDf {N:Nat} (hN:N<=D):yu enc Try.prog w N 52 (fun cs=>∃b:Ce,yZ D (fun _=>True) b cs w/\True):=by
 obtain⟨fs,hu,hfs⟩:=zBar;cases N with
 |zero=>exact zBu
 |succ N=>
  refine(zBv (F:=fun i cs=>match i with|0=>∃n,cs=[.int .i64 n]/\n<=9223372036854775807|_=>∃(ts:List T) (v:Value),cs=[v]/\Nd D (fun _=>True) ts v w) hu hfs ?_).imp ?_
  ·intro i p hi
   match i,hi with
   |0,hi=>simp at hi;subst hi;exact zBw N
   |1,hi=>simp at hi;subst hi;exact zBz (by omega)
   |i+2,hi=>simp at hi
  ·rintro cs ⟨hl,hf⟩;rw[zC4]at hl;obtain⟨k,hk,_⟩:=hf 0 _ rfl;obtain⟨ts,v,hv,hn⟩:=hf 1 _ rfl;obtain⟨c0,c1,rfl⟩:=ozl2 hl;simp[zB4,zB3]at hk hv;subst hk;subst hv;exact⟨⟨k,ts⟩,⟨_,rfl,hn⟩,trivial⟩
theorem zCi {N:Nat} (hN:N<=D):yu enc Try.prog w N 41 (fun cs=>∃(xs:List Ce) (v:Value),cs=[v]/\Sl (yZ D) (fun _=>True) xs v w/\xs.length<=1048576/\∀x∈xs,True):=by
 cases N with
 |zero=>exact zBu
 |succ N=>exact zB7 Try.underlying41 zC4 (zDf (by omega))
theorem zDg {N:Nat} (hN:N<=D):yu enc Try.prog w N 55 (fun cs=>∃e:PZ,NJ D (fun _=>True) e cs w/\SmE e):=by
 obtain⟨fs,hu,hfs⟩:=zEnd;cases N with
 |zero=>exact zBu
 |succ N=>
  refine(zBv (F:=fun i cs=>match i with|0=>∃n,cs=[.int .i64 n]/\n<=9223372036854775807|1=>∃(ts:List T) (v:Value),cs=[v]/\Nd D (fun _=>True) ts v w|_=>∃(xs:List Ce) (v:Value),cs=[v]/\Sl (yZ D) (fun _=>True) xs v w/\xs.length<=1048576/\∀x∈xs,True) hu hfs ?_).imp ?_
  ·intro i p hi
   match i,hi with
   |0,hi=>simp at hi;subst hi;exact zBw N
   |1,hi=>simp at hi;subst hi;exact zBz (by omega)
   |2,hi=>simp at hi;subst hi;exact zCi (by omega)
   |i+3,hi=>simp at hi
  ·rintro cs ⟨hl,hf⟩;rw[zC5]at hl;obtain⟨k,hk,hk2⟩:=hf 0 _ rfl;obtain⟨ts,v,hv,hn⟩:=hf 1 _ rfl;obtain⟨xs,u,hu2,hs,hlen,_⟩:=hf 2 _ rfl;obtain⟨c0,c1,c2,rfl⟩:=ozl3 hl;simp[zB4,zB3,zCq]at hk hv hu2;subst hk;subst hv;subst hu2;exact⟨⟨k,ts,xs⟩,⟨_,_,rfl,hn,hs⟩,hk2,hlen⟩
theorem zCx {N:Nat} (hN:N<=D):yu enc Try.prog w N 42 (fun cs=>∃(xs:List PZ) (v:Value),cs=[v]/\Sl (NJ D) (fun _=>True) xs v w/\xs.length<=1048576/\∀x∈xs,SmE x):=by
 cases N with
 |zero=>exact zBu
 |succ N=>exact zB7 Try.underlying42 zC5 (zDg (by omega))
def stF (D:Nat) (w:World):Nat->List Value->Prop
 |2,cs=>∃n,cs=[.bool n]
 |3,cs=>∃n,cs=[.int .i64 n]
 |4,cs=>∃(xs:List Ce) (v:Value),cs=[v]/\Sl (yZ D) (fun _=>True) xs v w/\xs.length<=1048576/\∀x∈xs,True
 |5,cs=>∃(ts:List T) (v:Value),cs=[v]/\Nd D (fun _=>True) ts v w
 |6,cs=>∃(ts:List T) (v:Value),cs=[v]/\Nd D (fun _=>True) ts v w
 |7,cs=>∃(xs:List PZ) (v:Value),cs=[v]/\Sl (NJ D) (fun _=>True) xs v w/\xs.length<=1048576/\∀x∈xs,SmE x
 |_,cs=>∃n,cs=[.int .i64 n]/\n<=9223372036854775807
theorem zCv {N:Nat} (hN:N<=D):yu enc Try.prog w N 44 (fun cs=>∃s:lh,StP D (fun _=>True) s cs w/\SmS s):=by
 obtain⟨fs,hu,hfs⟩:=zC7;cases N with
 |zero=>exact zBu
 |succ N=>
  refine(zBv (F:=stF D w) hu hfs ?_).imp ?_
  ·intro i p hi
   match i,hi with
   |0,hi=>simp at hi;subst hi;exact zBw N
   |1,hi=>simp at hi;subst hi;exact zBw N
   |2,hi=>simp at hi;subst hi;exact(zCd Try.underlying4).b
   |3,hi=>simp at hi;subst hi;exact zDc N
   |4,hi=>simp at hi;subst hi;exact zCi (by omega)
   |5,hi=>simp at hi;subst hi;exact zBz (by omega)
   |6,hi=>simp at hi;subst hi;exact zBz (by omega)
   |7,hi=>simp at hi;subst hi;exact zCx (by omega)
   |i+8,hi=>simp at hi
  ·rintro cs ⟨hl,hf⟩;rw[zCf]at hl;obtain⟨k0,h0,_⟩:=hf 0 _ rfl;obtain⟨k1,h1,_⟩:=hf 1 _ rfl;obtain⟨k2,h2⟩:=hf 2 _ rfl;obtain⟨k3,h3⟩:=hf 3 _ rfl;obtain⟨bs,v4,h4,s4,l4,_⟩:=hf 4 _ rfl;obtain⟨lv,v5,h5,s5⟩:=hf 5 _ rfl;obtain⟨gs,v6,h6,s6⟩:=hf 6 _ rfl;obtain⟨es,v7,h7,s7,zBt,e7⟩:=hf 7 _ rfl;obtain⟨c0,c1,c2,c3,c4,c5,c6,c7,rfl⟩:=ozl8 hl;simp[zB4,zDk,zC8,zB3,zCq,zDa]at h0 h1 h2 h3 h4 h5 h6 h7;subst h0;subst h1;subst h2;subst h3;subst h4;subst h5;subst h6;subst h7;exact⟨⟨k0,k1,k2,k3,bs,lv,gs,es⟩,⟨_,_,_,_,rfl,s4,s5,s6,s7⟩,zBt,l4,e7⟩
theorem zCj {N:Nat} (hN:N<=D):yu enc Try.prog w N 32 (fun cs=>∃(xs:List lh) (v:Value),cs=[v]/\Sl (StP D) (fun _=>True) xs v w/\xs.length<=1048576/\∀x∈xs,SmS x):=by
 cases N with
 |zero=>exact zBu
 |succ N=>exact zB7 Try.underlying32 zCf (zCv (by omega))
theorem zCy (N:Nat):yu enc Try.prog w N 3 (fun cs=>∃k:Int,jV (fun _=>True) k cs w/\True):=(zBw N).imp fun cs ⟨n,h,_⟩=>⟨n,h,trivial⟩
theorem zCz (N:Nat):yu enc Try.prog w N 22 (fun cs=>∃(xs:List Int) (v:Value),cs=[v]/\Sl jV (fun _=>True) xs v w/\xs.length<=1048576/\∀x∈xs,True):=by
 cases N with
 |zero=>exact zBu
 |succ N=>exact zB7 Try.underlying22 zB4 (zCy N)
theorem zC0 (N:Nat):yu enc Try.prog w N 34 (fun cs=>∃(D:Nat) (aC:Int) (ks:List Int) (bs:List lh),qg D (fun _=>True) aC ks bs cs w/\∀s∈bs,SmS s):=by
 obtain⟨fs,hu,hfs⟩:=zC2;cases N with
 |zero=>exact zBu
 |succ N=>
  refine(zBv (F:=fun i cs=>match i with|0=>∃n,cs=[.int .i64 n]/\n<=9223372036854775807|1=>∃(xs:List Int) (v:Value),cs=[v]/\Sl jV (fun _=>True) xs v w/\xs.length<=1048576/\∀x∈xs,True|_=>∃(xs:List lh) (v:Value),cs=[v]/\Sl (StP N) (fun _=>True) xs v w/\xs.length<=1048576/\∀x∈xs,SmS x) hu hfs ?_).imp ?_
  ·intro i p hi
   match i,hi with
   |0,hi=>simp at hi;subst hi;exact zBw N
   |1,hi=>simp at hi;subst hi;exact zCz N
   |2,hi=>simp at hi;subst hi;exact zCj zL
   |i+3,hi=>simp at hi
  ·rintro cs ⟨hl,hf⟩;rw[zDb]at hl;obtain⟨k,hk,_⟩:=hf 0 _ rfl;obtain⟨ks,v,hv,hn,_⟩:=hf 1 _ rfl;obtain⟨bs,u,hu2,hs,_,he⟩:=hf 2 _ rfl;obtain⟨c0,c1,c2,rfl⟩:=ozl3 hl;simp[zB4,zC9,zCr]at hk hv hu2;subst hk;subst hv;subst hu2;exact⟨N,k,ks,bs,⟨_,_,rfl,hn,hs⟩,he⟩
variable {r:Reach} {b0:Nat} {v:Value} {d:DataW H} {p:List MemPlace}
theorem zCe (hv : Value.okWide Try.prog w r b0 34 v) (h : DataW.Trod enc Try.prog w 0 (fun _ => true) true 34 v d p) (hw : (d.weights Try.prog 34).all (· ≤ reachBytes) = true) (hb : Rows.uptoBulk d ≤ 1048576) :
  ∃(D:Nat) (aC:Int) (ks:List Int) (bs:List lh) (cs:List Value),v=.agg cs.toArray/\qg D (fun _=>True) aC ks bs cs w/\∀s∈bs,SmS s:=by
 obtain⟨fs,hu,_⟩:=zC2;obtain⟨cs,rfl,_⟩:=okWide_struct hu hv;obtain⟨D,aC,ks,bs,hq⟩:=yu.arg zC0 h hw hb;exact⟨D,aC,ks,bs,cs.toList,by simp,hq⟩
end
end Go.Proofs.Ytbjnhllkdilpfaa
