/- Part 32 of the proof. No conditions. -/
import Derived.Test.YtbjnhllkdilpfaaZc31
import Derived.Test.YtbjnhllkdilpfaaZc24
namespace Go.Proofs.Ytbjnhllkdilpfaa
open Go.RowKit
set_option maxRecDepth 100000
set_option maxHeartbeats 16000000
set_option linter.unusedVariables false
set_option linter.unusedSimpArgs false
def zI (x:aZ):Nat:=(if x.form=3 then 1 else 0)+x.type.length+(if x.form=2 then 1 else 0)+1+x.name.length
def Bv:Nat->List aZ->Nat
 |_,[]=>0
 |i,x::l=>(if 0<i then 2 else 0)+zI x+Bv (i+1) l
def jO (l:List aZ):Nat:=4+Bv 0 l+1
def EU (l:List aZ):Prop:=∀x∈l,x.type.length<=24/\x.name.length<=24
theorem EW:∀(l:List aZ) (i:Nat),EU l->Bv i l<=60*l.length
 |[],i,_=>Nat.le_refl _
 |x::l,i,h=>by
  have h1:=h x (by simp);have h2:=EW l (i+1) fun y hy=>h y (by simp[hy])
  have h3:(if 0<i then 2 else 0)<=2:=by split<;>omega
  have h4:zI x<=1+24+1+1+24:=by
   unfold zI;have a1:(if x.form=3 then 1 else 0)<=1:=by split<;>omega
   have a2:(if x.form=2 then 1 else 0)<=1:=by split<;>omega
   omega
  show(if 0<i then 2 else 0)+zI x+Bv (i+1) l<=60*(l.length+1)
  omega
theorem Bz (x:aZ):x.cells.length=4:=rfl
theorem OD (l : List aZ) (A : Option Addr) (c : Nat) (w : World) (hrd : Rd w w.heap.size A (l.flatMap aZ.cells)) (hl : l.length ≤ 8) (hsh : EU l) :
  Calls Try.prog 62 #[.slice A l.length c] w (yM (jO l) w):=by
 have vg:=zH hrd;have hb:=EW l 0 hsh;obtain⟨N,hN⟩:∃N,4+Bv 0 l=N:=⟨_,rfl⟩
 have hN1:jO l=N+1:=by unfold jO;omega
 have hNb:N<=484:=by omega
 unfold yM;rw[hN1];have H0:Hid (4+Bv 0 (l.drop 0)=N):=zH (by rw[List.drop_zero];exact hN);clear hrd hb hN hN1 hsh
 go_enter Try.func62,Try.ntmps62
 go_wp2_with fail
 go_loopw[3,8] (fun s i wr=>∃(k:Nat) (S:ByteArray),k<=l.length/\s=.string S/\i=.int .i64 k/\Hid (S.size+Bv k (l.drop k)=N)/\Hid (Below w.heap.size w wr)) (fun _ i _=>l.length-(intOf i).toNat)
 case atStart=>exact⟨0,_,Nat.zero_le _,rfl,rfl,H0,zH zR⟩
 case round=>
  clear H0;obtain⟨k,S,hk,rfl,rfl,HR,HB⟩:=hrel;obtain⟨wo,rfl⟩:∃wo:World,wo=wr:=⟨_,rfl⟩
  by_cases hlt:k<l.length
  ·as_aux_lemma=>
   obtain⟨g,o,rfl,hg,hc⟩:=vg.out.elem (n:=4) Bz (by omega) hlt;have hr:=HR.out;rw[List.drop_eq_getElem_cons hlt]at hr;obtain⟨⟨f,ty,nm,ps⟩,hx⟩:∃z,l[k]=z:=⟨_,rfl⟩
   rw[hx]at hc hr;obtain⟨T,hT⟩:∃T,bytes ty=T:=⟨_,rfl⟩
   obtain⟨M,hM⟩:∃M,bytes nm=M:=⟨_,rfl⟩
   have hTs:ty.length=T.size:=by rw[<-hT,bD]
   have hMs:nm.length=M.size:=by rw[<-hM,bD]
   have hr2:S.size+((if 0<k then 2 else 0)+((if f=3 then 1 else 0)+T.size+(if f=2 then 1 else 0)+1+M.size)+Bv (k+1) (l.drop (k+1)))=N:=by
    rw[<-hTs,<-hMs];exact hr
   have hcc:∀(j:Nat) (u:Value),(aZ.cells ⟨f,ty,nm,ps⟩)[j]? =some u->wo.cell? ⟨g,o+k*4+j,none⟩=some u:=fun j u h=>(aT HB.out g _ hg).trans (hc j u h)
   have r0:wo.cell? ⟨g,o+k*4,none⟩=some (.int .i64 f):=hcc 0 _ rfl;have r1:wo.cell? ⟨g,o+k*4+1,none⟩=some (.string T):=(hcc 1 _ rfl).trans (by rw[hT]);have r2:wo.cell? ⟨g,o+k*4+2,none⟩=some (.string M):=(hcc 2 _ rfl).trans (by rw[hM]);have r3:wo.cell? ⟨g,o+k*4+3,none⟩=some (.int .i64 ps):=hcc 3 _ rfl;obtain⟨d1,hd1⟩:∃z,(if 0<k then 2 else 0:Nat)=z:=⟨_,rfl⟩
   obtain⟨d2,hd2⟩:∃z,(if f=3 then 1 else 0:Nat)=z:=⟨_,rfl⟩
   obtain⟨d3,hd3⟩:∃z,(if f=2 then 1 else 0:Nat)=z:=⟨_,rfl⟩
   obtain⟨rst,KI⟩:∃z,Bv (k+1) (l.drop (k+1))=z:=⟨_,rfl⟩
   rw[hd1,hd2,hd3,KI]at hr2;have HD1:=zH hd1;have HD2:=zH hd2;have HD3:=zH hd3;have HRS:=zH KI;have Vl:=zH hr2;have hsb:S.size+d1+d2+T.size+d3+1+M.size<=484:=by omega
   clear hcc hc hx hr hr2 hT hM hTs hMs hd1 hd2 hd3 KI HR hg;go_upto_region 5 with fail
   have kb:=Bk.new wo 126 #[.int .i64 f,.string T,.string M,.int .i64 ps];have HB2:=zH (HB.out.alloc HB.out.size (.cells #[.int .i64 f,.string T,.string M,.int .i64 ps] 126));clear r0 r1 r2 r3 HB;generalize wo.alloc (.cells #[.int .i64 f,.string T,.string M,.int .i64 ps] 126)=W5 at *;generalize wo.heap.size=gx at *;obtain⟨q0,q1,q2⟩:=zc3 kb;clear kb;go_upto_if 14 with fail
   go_cut[3] (fun v wx=>∃S':ByteArray,v=.string S'/\Hid (S'.size=S.size+d1)/\W5=wx)
   case first=>
    as_aux_lemma=>
    by_cases hk0:0<k
    ·have hI:(0:Int)<(k:Int):=by omega
     have h2:d1=2:=by rw[<-HD1.out,if_pos hk0]
     have hs:¬9223372036854775807<S.size+2:=by omega
     have HZ:Hid ((S++(⟨#[44,32]⟩:ByteArray)).size=S.size+d1):=zH (by rw[aj,h2];rfl);clear hk0 h2;go_wp2_with fail
     go_meet
     exact⟨_,rfl,HZ,rfl⟩
    ·have hI:¬(0:Int)<(k:Int):=by omega
     have h2:d1=0:=by rw[<-HD1.out,if_neg hk0]
     have HZ:Hid (S.size=S.size+d1):=zH (by omega);clear hk0 h2;go_wp2_with fail
     go_meet
     exact⟨_,rfl,HZ,rfl⟩
   case rest=>
   obtain⟨S1,rfl,zF,hwc⟩:=hcut;subst hwc;have hS1:S1.size=S.size+d1:=zF.out;have hsb1:S1.size+d2+T.size+d3+1+M.size<=484:=by omega
   clear hS1;go_upto_if 19 with fail
   go_cut[3] (fun v wx=>∃S':ByteArray,v=.string S'/\Hid (S'.size=S1.size+d2)/\W5=wx)
   case first=>
    as_aux_lemma=>
    by_cases hk0:f=3
    ·have hI:((f:Int)==3)=true:=by rw[beq_iff_eq];omega
     have h2:d2=1:=by rw[<-HD2.out,if_pos hk0]
     have hs:¬9223372036854775807<S1.size+1:=by omega
     have HZ:Hid ((S1++(⟨#[33]⟩:ByteArray)).size=S1.size+d2):=zH (by rw[aj,h2];rfl);clear hk0 h2;go_wp2_with fail
     go_meet
     exact⟨_,rfl,HZ,rfl⟩
    ·have hI:((f:Int)==3)=false:=zB (by omega)
     have h2:d2=0:=by rw[<-HD2.out,if_neg hk0]
     have HZ:Hid (S1.size=S1.size+d2):=zH (by omega);clear hk0 h2;go_wp2_with fail
     go_meet
     exact⟨_,rfl,HZ,rfl⟩
   case rest=>
   obtain⟨S2,rfl,HS2,hwc⟩:=hcut;subst hwc;have hS2:S2.size=S1.size+d2:=HS2.out;have hsb2:S2.size+T.size+d3+1+M.size<=484:=by omega
   have hs3:¬9223372036854775807<S2.size+T.size:=by omega
   clear hS2;go_upto_if 28 with fail
   obtain⟨S3,hS3⟩:∃z,S2++T=z:=⟨_,rfl⟩
   have hS3s:S3.size=S2.size+T.size:=by rw[<-hS3,aj]
   have HS3:=zH hS3s;rw[hS3];have hsb3:S3.size+d3+1+M.size<=484:=by omega
   clear hS3 hS3s hs3
   go_cut[3] (fun v wx=>∃S':ByteArray,v=.string S'/\Hid (S'.size=S3.size+d3)/\W5=wx)
   case first=>
    as_aux_lemma=>
    by_cases hk0:f=2
    ·have hI:((f:Int)==2)=true:=by rw[beq_iff_eq];omega
     have h2:d3=1:=by rw[<-HD3.out,if_pos hk0]
     have hs:¬9223372036854775807<S3.size+1:=by omega
     have HZ:Hid ((S3++(⟨#[43]⟩:ByteArray)).size=S3.size+d3):=zH (by rw[aj,h2];rfl);clear hk0 h2;go_wp2_with fail
     go_meet
     exact⟨_,rfl,HZ,rfl⟩
    ·have hI:((f:Int)==2)=false:=zB (by omega)
     have h2:d3=0:=by rw[<-HD3.out,if_neg hk0]
     have HZ:Hid (S3.size=S3.size+d3):=zH (by omega);clear hk0 h2;go_wp2_with fail
     go_meet
     exact⟨_,rfl,HZ,rfl⟩
   case rest=>
   obtain⟨S4,rfl,KJ,hwc⟩:=hcut;subst hwc;have hS4:S4.size=S3.size+d3:=KJ.out;have hsb4:S4.size+1+M.size<=484:=by omega
   have hs4:¬9223372036854775807<1+M.size:=by omega
   have hs5:¬9223372036854775807<S4.size+((⟨#[32]⟩:ByteArray)++M).size:=by rw[aj];show¬9223372036854775807<S4.size+(1+M.size);omega
   have hs6:¬9223372036854775807<S4.size+(1+M.size):=by omega
   have HF:Hid ((S4++((⟨#[32]⟩:ByteArray)++M)).size+Bv (k+1) (l.drop (k+1))=N):=zH (by
    rw[aj,aj,HRS.out]
    show S4.size+(1+M.size)+rst=N
    have h1:=zF.out;have h2:=HS2.out;have h3:=HS3.out;have h5:=Vl.out
    omega)
   clear hS4 zF HS2 HS3 KJ Vl HRS HD1 HD2 HD3 hsb hsb1 hsb2 hsb3;go_wp2
   go_roundw
   case rel=>exact⟨k+1,_,by omega,rfl,by go_num,HF,HB2⟩
   case measure=>simp[intOf];omega
  ·as_aux_lemma=>
   obtain rfl:k=l.length:=by omega
   have hr:=HR.out;rw[List.drop_eq_nil_of_le zL]at hr;have hr:S.size=N:=by simpa[Bv]using hr
   have hs:¬9223372036854775807<S.size+1:=by omega
   have HZ:Hid ((S++(⟨#[41]⟩:ByteArray)).size=N+1):=zH (by rw[aj,hr];rfl);clear HR hr;go_wp2
   go_ret
   exact⟨_,rfl,HZ.out,HB.out⟩
def Yes (w:World) (e:Ending) (w':World):Prop:=e=.returned (.bool true)/\Below w.heap.size w w'
section
set_option maxRecDepth 100000
set_option maxHeartbeats 8000000
theorem I7 {d:Nat} {S S':Nat->Prop} {bs:List Ce} {v v':Value} {w:World} (h1:Sl (yZ d) S bs v w) (h2:Sl (yZ d) S' bs v' w):Calls Try.prog 32 #[v,v'] w (Yes w):=by
 obtain⟨A,c,rfl,hl,h1⟩:=h1;obtain⟨A',c',rfl,_,h2⟩:=h2;have HR:=zH (And.intro h1 h2);obtain⟨n,hn⟩:∃z,bs.length=z:=⟨_,rfl⟩
 have hn2:n<=1000000000000:=by omega
 have HN:=zH hn;rw[hn];clear h1 h2 hn
 go_enter Try.func32,Try.ntmps32
 go_wp2_with fail
 go_loopw[13] (fun i wr=>∃(k:Nat),k<=n/\i=.int .i64 k/\Hid (Below w.heap.size w wr)) (fun i _=>n-(intOf i).toNat)
 case atStart=>exact⟨0,Nat.zero_le _,rfl,zH zR⟩
 case round=>
  obtain⟨wq,rfl⟩:∃z:World,z=wr:=⟨_,rfl⟩
  obtain⟨k,hk,rfl,hbel⟩:=hrel
  by_cases hlt:k<n
  ·have hlb:k<bs.length:=by rw[HN.out];exact hlt
   obtain⟨b,o,cs,rfl,_,hb,⟨g,rfl,hg⟩,hc⟩:=(HR.out.1.old hbel.out).elem hlb;obtain⟨b2,o2,cs2,rfl,_,hb2,⟨g2,rfl,hg2⟩,hd⟩:=(HR.out.2.old hbel.out).elem hlb;have HSN:=zH fun w' (hw:Below wq.heap.size wq w')=>uV d (hg.keep (.old hw)) (hg2.keep (.old hw))
   generalize bs[k].type=ty at *;have r0:wq.cell? ⟨b,o+k*2,none⟩=some (.int .i64 ty):=hc 0 _ rfl;have r1:wq.cell? ⟨b,o+k*2+1,none⟩=some g:=hc 1 _ rfl;have s0:wq.cell? ⟨b2,o2+k*2,none⟩=some (.int .i64 ty):=hd 0 _ rfl;have s1:wq.cell? ⟨b2,o2+k*2+1,none⟩=some g2:=hd 1 _ rfl;clear hc hd hg hg2 HR hlb;go_upto_region 6 with fail
   refine wx (fun k => false) [.is (.slice (some ⟨b, o, none⟩) n c),
     .is (.int .i64 (k:Nat)),
     .is (.pointer (some ⟨b,o+k*2,none⟩)),
     .is (.pointer (some ⟨b,o+k*2,none⟩)),
     .is (.int .i64 ty),
     .is (.slice (some ⟨b2,o2,none⟩) n c'),
     .is (.int .i64 (k:Nat)),
     .is (.pointer (some ⟨b2,o2+k*2,none⟩)),
     .is (.pointer (some ⟨b2,o2+k*2,none⟩)),
     .is (.int .i64 ty),
     .is (.bool false),
     .is (.bool false),
     .is (.slice (some ⟨b,o,none⟩) n c),
     .is (.int .i64 (k:Nat)),
     .is (.pointer (some ⟨b,o+k*2,none⟩)),
     .is (.pointer (some ⟨b,o+k*2+1,none⟩)),
     .is (g),
     .is (.slice (some ⟨b2,o2,none⟩) n c'),
     .is (.int .i64 (k:Nat)),
     .is (.pointer (some ⟨b2,o2+k*2,none⟩)),
     .is (.pointer (some ⟨b2,o2+k*2+1,none⟩)),
     .is (g2),
     .is (.bool true),
     .is (.bool false),
     .is (.bool false)] [2,7,10,14,19,22] (by kernel_rfl) (by kernel_rfl) (by kernel_rfl)
     (fun C=>.c (px C rfl (fun _ _=>rfl)) <|
     .c (px C rfl (fun _ _=>rfl)) <|
     .c (pz [0,1] [] (by kernel_rfl) fun qK qa wr hB qO qF hK=>?_) <|
     .c (px C rfl (fun _ _=>rfl)) <|
     .c (px C rfl (fun _ h=>bW (lJ (bc h r0)))) <|
     .c (px C rfl (fun _ _=>rfl)) <|
     .c (px C rfl (fun _ _=>rfl)) <|
     .c (pz [5,6] [] (by kernel_rfl) fun qK qa wr hB qO qF hK=>?_) <|
     .c (px C rfl (fun _ _=>rfl)) <|
     .c (px C rfl (fun _ h=>bW (lJ (bc h s0)))) <|
     .c (pz [4,9] [] (by kernel_rfl) fun qK qa wr hB qO qF hK=>?_) <|
     .c (px C rfl (fun _ _=>rfl)) <|
     .c (px C rfl (fun _ _=>rfl)) <|
     .c (px C rfl (fun _ _=>rfl)) <|
     .c (pz [12,13] [] (by kernel_rfl) fun qK qa wr hB qO qF hK=>?_) <|
     .c (px C rfl (fun _ _=>rfl)) <|
     .c (px C rfl (fun _ h=>bW (mM (bc h r1)))) <|
     .c (px C rfl (fun _ _=>rfl)) <|
     .c (px C rfl (fun _ _=>rfl)) <|
     .c (pz [17,18] [] (by kernel_rfl) fun qK qa wr hB qO qF hK=>?_) <|
     .c (px C rfl (fun _ _=>rfl)) <|
     .c (px C rfl (fun _ h=>bW (mM (bc h s1)))) <|
     .c (pz [16,21] [] (by kernel_rfl) fun qK qa wr hB qO qF hK=>?_) <|
     .c (px C rfl (fun _ _=>rfl)) <|
     .c (px C rfl (fun _ _=>rfl)) <| .nil) ?_
   ·have e16:=ay qF.1 rfl rfl;have e17:=ay qF.2.1 rfl rfl;clear qO qF;go_simp;refine hK _ _ zR ?_
    show(_:Value)=_
    first|rfl|(simp;done)|(simp;omega)
   ·have e21:=ay qF.1 rfl rfl;have e22:=ay qF.2.1 rfl rfl;clear qO qF;go_simp;refine hK _ _ zR ?_
    show(_:Value)=_
    first|rfl|(simp;done)|(simp;omega)
   ·have e20:=ay qF.1 rfl rfl;have e25:=ay qF.2.1 rfl rfl;clear qO qF;go_simp;refine hK _ _ zR ?_
    show(_:Value)=_
    first|rfl|(simp;done)|(simp;omega)
   ·have e28:=ay qF.1 rfl rfl;have e29:=ay qF.2.1 rfl rfl;clear qO qF;go_simp;refine hK _ _ zR ?_
    show(_:Value)=_
    first|rfl|(simp;done)|(simp;omega)
   ·have e33:=ay qF.1 rfl rfl;have e34:=ay qF.2.1 rfl rfl;clear qO qF;go_simp;refine hK _ _ zR ?_
    show(_:Value)=_
    first|rfl|(simp;done)|(simp;omega)
   ·have e32:=ay qF.1 rfl rfl;have e37:=ay qF.2.1 rfl rfl;clear qO qF;go_simp
    go_at_call 24
    refine(HSN.out wr hB).mono ?_;rintro r w9 ⟨rfl,dO⟩;exact hK _ _ dO rfl
   intro qx wr hB hR hS;clear hR hS;simp only[bJ,List.take_succ_cons,List.take_zero,List.drop_succ_cons,List.drop_zero,List.toList_toArray,List.length_cons,List.length_nil,Act.put,List.setIfInBounds_toArray,List.set_cons_zero,List.set_cons_succ];refine zn ?_;go_wp2_with fail
   go_roundw
   case rel=>exact⟨k+1,hlt,by go_num,zH (hbel.out.trans (hB.mono hbel.out.size))⟩
   case measure=>simp[intOf];omega
  ·obtain rfl:k=n:=by omega
   go_wp2_with fail
   go_ret
   exact⟨rfl,hbel.out⟩
theorem alike {d:Nat} {S S':Nat->Prop} {st:lh} {cs cs':List Value} {w:World} (h1:StP d S st cs w) (h2:StP d S' st cs' w):Calls Try.prog 31 #[.agg cs.toArray,.agg cs'.toArray] w (Yes w):=by
 obtain⟨v4,v5,v6,v7,rfl,h4,h5,h6,h7⟩:=h1;obtain⟨u4,u5,u6,u7,rfl,k4,k5,k6,k7⟩:=h2;have H4:=zH fun w' (hw:Below w.heap.size w w')=>I7 (h4.keep (.old hw)) (k4.keep (.old hw))
 have H5:=zH fun w' (hw:Below w.heap.size w w')=>uV d (h5.keep (.old hw)) (k5.keep (.old hw))
 have H6:=zH fun w' (hw:Below w.heap.size w w')=>uV d (h6.keep (.old hw)) (k6.keep (.old hw))
 obtain⟨A4,c4,rfl⟩:=h4.form;obtain⟨A5,c5,rfl⟩:=h5.form;obtain⟨A6,c6,rfl⟩:=h6.form;obtain⟨A7,c7,rfl⟩:=h7.form;obtain⟨B4,d4,rfl⟩:=k4.form;obtain⟨B5,d5,rfl⟩:=k5.form;obtain⟨B6,d6,rfl⟩:=k6.form;obtain⟨B7,d7,rfl⟩:=k7.form;obtain⟨p,t,m,win,bars,lv,gs,ends⟩:=st;simp only[]at *;clear h4 h5 h6 h7 k4 k5 k6 k7
 go_enter Try.func31,Try.ntmps31
 go_upto_region 1 with fail
 obtain⟨w0,hw0⟩:∃z,(w.alloc (.cells #[.int .i64 p,.int .i64 t,.bool m,.int .i64 win,.slice A4 bars.length c4,.slice A5 lv.length c5,.slice A6 gs.length c6,.slice A7 ends.length c7] 44)).alloc (.cells #[.int .i64 p,.int .i64 t,.bool m,.int .i64 win,.slice B4 bars.length d4,.slice B5 lv.length d5,.slice B6 gs.length d6,.slice B7 ends.length d7] 44)=z:=⟨_,rfl⟩
 have k1:=hw0▸(Bk.new w 44 #[.int .i64 p,.int .i64 t,.bool m,.int .i64 win,.slice A4 bars.length c4,.slice A5 lv.length c5,.slice A6 gs.length c6,.slice A7 ends.length c7]).alloc (.cells #[.int .i64 p,.int .i64 t,.bool m,.int .i64 win,.slice B4 bars.length d4,.slice B5 lv.length d5,.slice B6 gs.length d6,.slice B7 ends.length d7] 44);have k2:Bk w0 (w.heap.size+1) 44 #[.int .i64 p,.int .i64 t,.bool m,.int .i64 win,.slice B4 bars.length d4,.slice B5 lv.length d5,.slice B6 gs.length d6,.slice B7 ends.length d7]:=hw0▸Bk.newAt (by simp) _ _;have hb0:Below w.heap.size w w0:=hw0▸bel2 w _ _;simp only[hw0];clear hw0;obtain⟨x0,x1,x2,x3,x4⟩:=zc5 k1;obtain⟨y0,y1,y2,y3,y4⟩:=zc5 k2;have HK:=zH (And.intro k1 k2);have HB:=zH hb0;clear k1 k2 hb0;go_wp2_with fail
 refine(H4.out _ HB.out).mono ?_;rintro e w1 ⟨rfl,hb1⟩;have x5:=(HK.out.1.old hb1).cell 5;have y5:=(HK.out.2.old hb1).cell 5;have hb2:=HB.out.trans (hb1.mono HB.out.size);go_wp2_with fail
 refine(H5.out _ hb2).mono ?_;rintro e w2 ⟨rfl,hb3⟩;have x6:=((HK.out.1.old hb1).old hb3).cell 6;have y6:=((HK.out.2.old hb1).old hb3).cell 6;have hb4:=hb2.trans (hb3.mono hb2.size);go_wp2_with fail
 refine(H6.out _ hb4).mono ?_;rintro e w3 ⟨rfl,hb5⟩;go_wp2_with fail
 go_ret
 exact⟨rfl,hb4.trans (hb5.mono hb4.size)⟩
end
end Go.Proofs.Ytbjnhllkdilpfaa
