/- Part 37 of the proof. No conditions. -/
import Derived.Test.YtbjnhllkdilpfaaZb36
namespace Go.Proofs.Ytbjnhllkdilpfaa
open Go.RowKit
set_option linter.unusedSimpArgs false
set_option linter.unusedVariables false
set_option maxHeartbeats 16000000
set_option maxRecDepth 100000
def zU:Nat->List (List bu)->Nat
 |_,[]=>0
 |i,l::r=>(if 0<i then 3 else 0)+jE l+zU (i+1) r
def oQ (n:Nat) (e:au):Nat×Nat:=if 1<n/\rO e=14 then((fA e).1+2,(fA e).2+1)else fA e
def wI (n:Nat):Nat->List au->Nat
 |_,[]=>0
 |i,e::r=>(if i=0 then 7 else 5)+(oQ n e).1+wI n (i+1) r
def F9 (n:Nat):Nat->List au->Nat
 |d,[]=>d
 |d,e::r=>F9 n (max d (oQ n e).2) r
def yF (st:Nat):Nat:=([6,4,3]:List Nat).getD (st-1) 0
def La (q:bU):Nat:=8+zU 0 q.branches+wI q.cond.length 0 q.cond+(18+yF q.aS+iK q.window)+(if q.key=[]then 0 else 14+q.key.length)
def qi (q:bU):Nat:=
 if lT q=false then 3
 else if 4<q.branches.length\/200<iw q then 2
 else if q.branches.any (fun l=>decide (8<l.length))=true then 2
 else if 4000<La q then 2
 else if 30<F9 q.cond.length 0 q.cond then 14 else 0
theorem JE (n:Nat):∀(l:List au) (i:Nat),(∀e∈l,dO e=true/\jQ e)->wI n i l<=90*aX i l
 |[],i,_=>Nat.le_refl _
 |e::r,i,h=>by
  have h1:=qg e (h e (by simp)).1 (h e (by simp)).2;have h2:=JE n r (i+1) fun x hx=>h x (by simp[hx])
  have h3:1<=aG e:=by cases e<;>simp[aG]<;>omega
  have h4:(oQ n e).1<=(fA e).1+2:=by unfold oQ;split<;>simp
  have h5:(if i=0 then 7 else 5:Nat)<=7:=by split<;>omega
  rw[lL]
  show(if i=0 then 7 else 5)+(oQ n e).1+wI n (i+1) r<=_
  omega
theorem sW:∀(l:List au) (i:Nat),∀e∈l,aG e<=aX i l
 |[],i,e,h=>by simp at h
 |x::r,i,e,h=>by
  rw[lL];rcases List.mem_cons.1 h with rfl|h
  ·omega
  ·have:=sW r (i+1) e h;omega
theorem xu {q:bU} (h:lT q=true):(∀l∈q.branches,DR l)/\(∀e∈q.cond,dO e=true)/\(1<=q.aS/\q.aS<=3)/\q.window<=1152921504606846976/\q.key.length<=24/\(∀l∈q.branches,0<l.length)/\0<q.branches.length:=by
 unfold lT DV at h;simp only[Bool.and_eq_true,decide_eq_true_eq,Bool.or_eq_true,List.all_eq_true]at h;refine⟨fun l hl x hx=>?_,fun e he=>?_,⟨h.1.1.1.1.1.2,h.1.1.1.1.2⟩,h.1.1.1.2,?_,fun l hl=>?_,h.1.1.1.1.1.1⟩
 ·have h1:=h.1.2 l hl;unfold F8 at h1;simp only[Bool.and_eq_true,decide_eq_true_eq,List.all_eq_true]at h1;have h2:=h1.2 x hx;unfold qh at h2;simp only[Bool.and_eq_true]at h2;exact⟨qW h2.1.2,qW h2.2⟩
 ·have h1:=h.2 e he;unfold xR at h1;simp only[Bool.and_eq_true]at h1;exact h1.2
 ·rcases h.1.1.2 with h1|h1
  ·have:=jm h1;omega
  ·exact qW h1
 ·have h1:=h.1.2 l hl;unfold F8 at h1;simp only[Bool.and_eq_true,decide_eq_true_eq]at h1;exact h1.1
def DW (q:bU) (w:World) (e:Ending) (w':World):Prop:=∃S:ByteArray,e=.returned (.tuple #[.string S,.int .i64 (qi q:Nat)])/\Below w.heap.size w w'
def OT (gx st win ix:Nat) (T G D:ByteArray):List Spec:=[.is (.string T),
 .st (fun v w=>∃g,v=.slice (some ⟨g,0,none⟩) 3 3/\Bk w g 9 #[.string {data:=#[83,84,82,73,67,84]},.string {data:=#[78,69,88,84]},.string {data:=#[65,78,89]}]) (fun _ _ _ hb ⟨g,h1,h2⟩=>⟨g,h1,h2.old hb⟩),
 .is (.pointer (some ⟨gx,2,none⟩)),
 .is (.int .i64 (st:Nat)),
 .is (.int .i64 (ix:Nat)),
 .st (fun v w=>∃g,v=.pointer (some ⟨g,ix,none⟩)/\Bk w g 9 #[.string ⟨#[83,84,82,73,67,84]⟩,.string ⟨#[78,69,88,84]⟩,.string ⟨#[65,78,89]⟩]) (fun _ _ _ hb ⟨g,h1,h2⟩=>⟨g,h1,h2.old hb⟩),
 .is (.string G),
 .is (.string ((⟨#[32,83,84,82,65,84,69,71,89,32]⟩:ByteArray)++G)),
 .is (.string (((⟨#[32,83,84,82,65,84,69,71,89,32]⟩:ByteArray)++G)++(⟨#[32,87,73,84,72,73,78,32]⟩:ByteArray))),
 .is (.pointer (some ⟨gx,3,none⟩)),
 .is (.int .i64 (win:Nat)),
 .is (.string D),
 .is (.string ((((⟨#[32,83,84,82,65,84,69,71,89,32]⟩:ByteArray)++G)++(⟨#[32,87,73,84,72,73,78,32]⟩:ByteArray))++D)),
 .is (.string (T++((((⟨#[32,83,84,82,65,84,69,71,89,32]⟩:ByteArray)++G)++(⟨#[32,87,73,84,72,73,78,32]⟩:ByteArray))++D)))]
theorem print_any (B : Nat) (w : World) (q : bU) (A1 A2 : Option Addr) (n1 n2 c1 c2 : Nat) (hbr : jK B w (.slice A1 n1 c1) q.branches) (hwh : wZ B w (.slice A2 n2 c2) q.cond) (hbd : ∀ e ∈ q.cond, jQ e) (hn : n1 ≤ 1000 ∧ n2 ≤ 100000) (hst : q.aS ≤ 1000) (hwin : q.window ≤ 9223372036854775807) (hit : ∀ l ∈ q.branches, l.length ≤ 1000) (hnq : iw q ≤ 1000000) :
  Calls Try.prog 45 #[.agg (q.cells (.slice A1 n1 c1) (.slice A2 n2 c2)).toArray] w (DW q w):=by
 have hl1:=hbr.len;have hl2:=hwh.len;have KY:=zH hbr;have WT:=zH hwh;have vJ:=zH hbd;have AQ:=zH hl1;have HL2:=zH hl2;have HIT:=zH hit;have RU:Hid (∀W,Below w.heap.size w W->Calls Try.prog 61 #[.agg #[.slice A1 n1 c1,.slice A2 n2 c2,.int .i64 q.aS,.int .i64 q.window,.string (bytes q.key),.int .i64 q.keyAt]] W fun r w'=>r=.returned (.bool (lT q))/\Below W.heap.size W w'):=zH fun W hW=>II B W q A1 A2 n1 n2 c1 c2 (hbr.old hW) (hwh.old hW) hbd hn hst hwin hit
 have lX:Hid (∀W,Below w.heap.size w W->Calls Try.prog 43 #[.agg #[.slice A1 n1 c1,.slice A2 n2 c2,.int .i64 q.aS,.int .i64 q.window,.string (bytes q.key),.int .i64 q.keyAt]] W fun r w'=>r=.returned (.int .i64 (iw q:Nat))/\Below W.heap.size W w'):=zH fun W hW=>by
  obtain⟨css,h1,h2⟩:=hwh.old hW;obtain⟨A0,c0,hv,_⟩:=bF h1;injection hv with hA hnn hc
  subst hA hnn hc;exact zA B W q (.slice A1 n1 c1) A2 c2 css h1 h2 hnq
 obtain⟨RT,hrt⟩:∃z,lT q=z:=⟨_,rfl⟩
 obtain⟨NQ,WV⟩:∃z,iw q=z:=⟨_,rfl⟩
 obtain⟨RES,hres⟩:∃R,qi q=R:=⟨_,rfl⟩
 have OU:=zH (fun h:lT q=true=>xu h);unfold DW;rw[hres];unfold qi at hres;rw[hrt]at RU hres;rw[WV]at lX hres hnq;have HRTE:=zH hrt;have HNQE:=zH WV;have aK:=zH hres;have HWIN:=zH hwin;obtain⟨hn1,hn2⟩:=hn;obtain⟨K,hK⟩:∃K,bytes q.key=K:=⟨_,rfl⟩
 have HKK:=zH hK;rw[hK]at RU lX;unfold bU.cells iE;clear hbr hwh hbd hl1 hl2 hit hres hrt WV hwin;simp only[hK];clear hK;generalize hstq:q.aS=st at *;generalize hwnq:q.window=win at *;generalize q.keyAt=ka at *;have HSTQ:=zH hstq;have HWNQ:=zH hwnq;clear hstq hwnq
 go_enter Try.func45,Try.ntmps45
 have kb:=Bk.new w 80 #[.slice A1 n1 c1,.slice A2 n2 c2,.int .i64 st,.int .i64 win,.string K,.int .i64 ka];have HB0:=zH ((Below.refl w.heap.size w).alloc zL (.cells #[.slice A1 n1 c1,.slice A2 n2 c2,.int .i64 st,.int .i64 win,.string K,.int .i64 ka] 80));go_upto_region 1 with fail
 generalize w.alloc (.cells #[.slice A1 n1 c1,.slice A2 n2 c2,.int .i64 st,.int .i64 win,.string K,.int .i64 ka] 80)=w0 at *;obtain⟨gx,hgx⟩:∃z,w.heap.size=z:=⟨_,rfl⟩
 have Bh:=zH hgx;rw[hgx]at kb⊢;have HKB:=zH kb;have hgl:=kb.lt;obtain⟨q0,q1,q2,q3,q4,q5⟩:=zc6 kb;clear kb hgx;go_wp2_with fail
 refine(RU.out w0 HB0.out).mono ?_;rintro r w1 ⟨rfl,hb1⟩;have HB1:=zH hb1;clear hb1 q0 q1 q2 q3 q4 q5 RU;cases RT
 case false=>
  as_aux_lemma=>
  have hR:=aK.out;rw[if_pos rfl]at hR;subst hR;have HF:=zH (HB0.out.trans (HB1.out.mono HB0.out.size));clear aK;go_wp2
  go_ret2
  exact⟨_,rfl,by first|exact HF.out|(rw[<-Bh.out];exact HF.out)|(rw[Bh.out];exact HF.out)⟩
 case true=>
 have hR:=aK.out;rw[if_neg (by decide)]at hR;have hshort:=OU.out HRTE.out;have IJ:=zH hshort;have HR2:=zH hR;clear aK hR hshort OU;obtain⟨big,hbig⟩:∃z,(decide (4<n1)||decide (200<NQ))=z:=⟨_,rfl⟩
 have Sm:=zH hbig;clear hbig;have kq:=HKB.out.old HB1.out;obtain⟨q0,q1,q2,q3,q4,q5⟩:=zc6 kq;clear kq;go_upto_region 3 with fail
 go_cut[22] (fun v wx=>v=.bool big/\Hid (Below w0.heap.size w0 wx))
 case first=>
  as_aux_lemma=>
  have hb:=Sm.out
  by_cases h4:4<n1
  ·have hI:(4:Int)<(n1:Int):=by omega
   have hst':big=true:=by rw[<-hb,decide_eq_true h4];rfl
   subst hst';clear h4 hb;go_wp2_with fail
   go_meet
   exact⟨rfl,HB1⟩
  ·have hI:¬(4:Int)<(n1:Int):=by omega
   have hst':big=decide (200<NQ):=by rw[<-hb,decide_eq_false h4];rfl
   have HST:=zH hst';have HN:=zH (lX.out w1 (HB0.out.trans (HB1.out.mono HB0.out.size)));clear h4 hb hst';go_wp2_with fail
   refine HN.out.mono ?_;rintro r w2 ⟨rfl,hb2⟩;have HB2:=zH (HB1.out.trans (hb2.mono HB1.out.size));clear hb2 HN lX
   by_cases h2:200<NQ
   ·have hI2:(200:Int)<(NQ:Int):=by omega
    have hs:big=true:=by rw[HST.out,decide_eq_true h2]
    subst hs;clear h2;go_wp2_with fail
    go_meet
    exact⟨rfl,HB2⟩
   ·have hI2:¬(200:Int)<(NQ:Int):=by omega
    have hI3:decide ((200:Int)<(NQ:Int))=false:=decide_eq_false hI2;have hs:big=false:=by rw[HST.out,decide_eq_false h2]
    subst hs;clear h2;go_wp2_with fail
    go_meet
    exact⟨rfl,HB2⟩
 case rest=>
 obtain⟨rfl,HB⟩:=hcut;clear q0 q1 q2 q3 q4 q5 HB1 lX;cases big
 case true=>
  as_aux_lemma=>
  have hR:=HR2.out;have hb:=Sm.out
  rw[if_pos (by
   rw[<-AQ.out]
   simpa using hb)]at hR
  subst hR;have HF:=zH (HB0.out.trans (HB.out.mono HB0.out.size));clear HR2 hb;go_wp2
  go_ret2
  exact⟨_,rfl,by first|exact HF.out|(rw[<-Bh.out];exact HF.out)|(rw[Bh.out];exact HF.out)⟩
 case false=>
 have hb:=Sm.out
 have hsm:n1<=4/\NQ<=200:=by
  have h:=hb;simp at h;omega
 have hR:=HR2.out;rw[if_neg (by rw[<-AQ.out];omega)]at hR;have HR3:=zH hR;obtain⟨hn4,hnq2⟩:=hsm;clear hR HR2 hb Sm hnq hn1;obtain⟨OV,hany⟩:∃z,q.branches.any (fun l=>decide (8<l.length))=z:=⟨_,rfl⟩
 have hR:=HR3.out;rw[hany]at hR;have HR4:=zH hR;have HANY:Hid ((q.branches.drop 0).any (fun l=>decide (8<l.length))=OV):=zH (by rw[List.drop_zero];exact hany);have HSB:Hid (8+zU 0 (q.branches.drop 0)=8+zU 0 q.branches):=zH (by rw[List.drop_zero]);clear hR HR3 hany;have q0:=(HKB.out.old HB.out).cell 0;go_wp2_with fail
 clear q0;have hsbb:zU 0 q.branches<=0+zU 0 q.branches:=by omega
 obtain⟨NB,Uk⟩:∃z,8+zU 0 q.branches=z:=⟨_,rfl⟩
 have WW:=HSB.out;rw[Uk]at WW;have HSBN:=zH WW;have BR:=zH Uk;clear HSB WW Uk hsbb
 go_loopw[4,26] (fun s i wr=>∃(k:Nat) (S:ByteArray),k<=n1/\s=.string S/\i=.int .i64 k/\S.size<=8+488*k/\Hid (S.size+zU k (q.branches.drop k)=NB)/\Hid ((q.branches.drop k).any (fun l=>decide (8<l.length))=OV)/\Hid (Below w0.heap.size w0 wr)) (fun _ i _=>n1-(intOf i).toNat)
 case atStart=>exact⟨0,_,Nat.zero_le _,rfl,rfl,Nat.le_refl _,HSBN,HANY,HB⟩
 case round=>
  clear HSBN HANY HB;obtain⟨k,S,hk,rfl,rfl,hsl,HR,HAN,HB⟩:=hrel;obtain⟨wo,rfl⟩:∃wo:World,wo=wr:=⟨_,rfl⟩
  by_cases hlt:k<n1
  ·as_aux_lemma=>
   have hkl:k<q.branches.length:=by have:=AQ.out;omega
   have hbw:Below w.heap.size w wo:=HB0.out.trans (HB.out.mono HB0.out.size);obtain⟨g,o,A',c',hA,hg,hc,hrd⟩:=(KY.out.old hbw).get k hkl;subst hA;have hr:=HR.out;have ha:=HAN.out;rw[List.drop_eq_getElem_cons hkl]at hr ha;have hll:=HIT.out q.branches[k] (List.getElem_mem hkl);have hsh:=IJ.out.1 q.branches[k] (List.getElem_mem hkl);obtain⟨l,hl⟩:∃l,q.branches[k]=l:=⟨_,rfl⟩
   rw[hl]at hc hrd hr ha hll hsh
   by_cases h8:8<l.length
   ·as_aux_lemma=>
    have hI:(8:Int)<(l.length:Int):=by omega
    have hany:OV=true:=by
     rw[<-ha,List.any_cons,decide_eq_true h8];rfl
    have hR:=HR4.out;rw[hany,if_pos rfl]at hR;subst hR;have HF:=zH hbw;clear hr ha hrd hl HR HAN h8 hsh hany HR4 AQ;go_wp2
    go_ret2
    exact⟨_,rfl,by first|exact HF.out|(rw[<-Bh.out];exact HF.out)|(rw[Bh.out];exact HF.out)⟩
   ·as_aux_lemma=>
    have hI:¬(8:Int)<(l.length:Int):=by omega
    have ha2:(q.branches.drop (k+1)).any (fun l=>decide (8<l.length))=OV:=by
     rw[<-ha,List.any_cons,decide_eq_false h8];rfl
    have HA2:=zH ha2;obtain⟨d1,hd1⟩:∃z,(if 0<k then 3 else 0:Nat)=z:=⟨_,rfl⟩
    have hr2:S.size+(d1+jE l+zU (k+1) (q.branches.drop (k+1)))=NB:=by rw[<-hd1];exact hr
    have HR2':=zH hr2;have HD1:=zH hd1;have hd3:d1<=3:=by rw[<-hd1];split<;>omega
    have hil:=DT l 0 hsh;have HIL:Hid (jE l<=485):=zH (by unfold jE;omega);have Oq:Hid (∀W,Below wo.heap.size wo W->Calls Try.prog 62 #[.slice A' l.length c'] W (xm (jE l) W)):=zH fun W hW=>KU l A' c' W ((hrd.below hW).more hW.size) (by omega) hsh
    unfold xm at Oq;have hsl2:S.size<=2000:=by omega
    clear hr ha ha2 hd1 hr2 hrd hl h8 hsh hil hll HR HAN HR4 AQ hbw hg;generalize jE l=il at *;go_upto_if 35 with fail
    clear hc
    go_cut[4] (fun v wx=>∃S':ByteArray,v=.string S'/\Hid (S'.size=S.size+d1)/\wo=wx)
    case first=>
     as_aux_lemma=>
     by_cases hk0:0<k
     ·have hI2:(0:Int)<(k:Int):=by omega
      have h2:d1=3:=by rw[<-HD1.out,if_pos hk0]
      have hs:¬9223372036854775807<S.size+3:=by omega
      have HZ:Hid ((S++(⟨#[32,124,32]⟩:ByteArray)).size=S.size+d1):=zH (by rw[ai,h2];rfl);clear hk0 h2;go_wp2_with fail
      go_meet
      exact⟨_,rfl,HZ,rfl⟩
     ·have hI2:¬(0:Int)<(k:Int):=by omega
      have h2:d1=0:=by rw[<-HD1.out,if_neg hk0]
      have HZ:Hid (S.size=S.size+d1):=zH (by omega);clear hk0 h2;go_wp2_with fail
      go_meet
      exact⟨_,rfl,HZ,rfl⟩
    case rest=>
    obtain⟨S1,rfl,yx,hwc⟩:=hcut;subst hwc;go_wp2_with fail
    refine(Oq.out wo zR).mono ?_;rintro r w4 ⟨T,rfl,hT,hb4⟩;have HT:=zH hT;have HB4:=zH (HB.out.trans (hb4.mono HB.out.size));have hS1:S1.size<=2003:=by have:=yx.out;omega
    have hTb:T.size<=485:=by have:=HIL.out;omega
    have hs1:¬9223372036854775807<S1.size+T.size:=by omega
    have HF:Hid ((S1++T).size+zU (k+1) (q.branches.drop (k+1))=NB):=zH (by
     rw[ai,yx.out,HT.out];have:=HR2'.out
     omega)
    have hbd2:(S1++T).size<=8+488*(k+1):=by
     rw[ai];have:=yx.out;have:=HT.out;have:=HIL.out;omega
    clear hT hb4 Oq HB HR2' HD1;go_wp2
    go_roundw
    case rel=>exact⟨k+1,S1++T,by omega,rfl,by go_num,hbd2,HF,HA2,HB4⟩
    case measure=>simp[intOf];omega
  ·as_aux_lemma=>
   obtain rfl:k=n1:=by omega
   have hr:=HR.out;have ha:=HAN.out;rw[List.drop_eq_nil_of_le (by have:=AQ.out;omega)]at hr ha;have hany:OV=false:=by rw[<-ha];rfl
   have hR:=HR4.out;rw[hany,if_neg (by decide)]at hR;have Me:=zH hR;have hSN:S.size=NB:=by simpa[zU]using hr
   have HSN:=zH hSN;have hS:S.size<=2000:=by omega
   clear hr ha hany hR HR HAN HR4 hSN KY HIT hsl;have q1:=(HKB.out.old HB.out).cell 1;go_wp2_with fail
   clear q1;obtain⟨NC,hNC⟩:∃z,S.size+wI n2 0 q.cond=z:=⟨_,rfl⟩
   obtain⟨MX,hMX⟩:∃z,F9 n2 0 q.cond=z:=⟨_,rfl⟩
   have hcb:=JE n2 q.cond 0 fun e he=>⟨IJ.out.2.1 e he,vJ.out e he⟩
   have hwn:aX 0 q.cond=NQ:=HNQE.out;have hNCb:NC<=20000:=by rw[hwn]at hcb;omega
   have QE:Hid (∀e∈q.cond,aG e<=200):=zH fun e he=>by
    have:=sW q.cond 0 e he;omega
   have H0:Hid (S.size+wI n2 0 (q.cond.drop 0)=NC):=zH (by rw[List.drop_zero];exact hNC);have M0:Hid (F9 n2 0 (q.cond.drop 0)=MX):=zH (by rw[List.drop_zero];exact hMX);have HNC:=zH hNC;have HMX:=zH hMX;clear hNC hMX hcb hwn hlt hk
   go_loopw[4,7,46] (fun s d i wr=>∃(j:Nat) (T:ByteArray) (dd:Nat),j<=n2/\s=.string T/\d=.int .i64 dd/\i=.int .i64 j/\dd<=500/\Hid (T.size+wI n2 j (q.cond.drop j)=NC)/\Hid (F9 n2 dd (q.cond.drop j)=MX)/\Hid (Below w0.heap.size w0 wr)) (fun _ _ i _=>n2-(intOf i).toNat)
   case atStart=>exact⟨0,S,0,Nat.zero_le _,rfl,rfl,rfl,by omega,H0,M0,HB⟩
   case round=>
    clear H0 M0;obtain⟨j,T,dd,hj,rfl,rfl,rfl,hdd,HR,HM,AB⟩:=hrel;obtain⟨wp,rfl⟩:∃wp:World,wp=wr:=⟨_,rfl⟩
    by_cases hlj:j<n2
    ·as_aux_lemma=>
     have hjl:j<q.cond.length:=by have:=HL2.out;omega
     have hbw:Below w.heap.size w wp:=HB0.out.trans (AB.out.mono HB0.out.size);obtain⟨g,o,y0,y1,y2,y3,y4,y5,y6,hA,hg,hok,hc⟩:=(WT.out.old hbw).get j hjl;subst hA;obtain⟨d1,d2,d3,d4,d5,d6,hcs⟩:=hok.op;injection hcs with h0 hcs
     injection hcs with h1 hcs
     injection hcs with h2 hcs
     injection hcs with h3 hcs
     injection hcs with h4 hcs
     injection hcs with h5 hcs
     injection hcs with h6 hcs
     subst h0 h1 h2 h3 h4 h5 h6;have hr:=HR.out;have hm:=HM.out;rw[List.drop_eq_getElem_cons hjl]at hr hm;have hbe:=vJ.out q.cond[j] (List.getElem_mem hjl);have hre:=IJ.out.2.1 q.cond[j] (List.getElem_mem hjl);have hne:=QE.out q.cond[j] (List.getElem_mem hjl);have hle:=qg q.cond[j] hre hbe;have HQ:Hid (Calls Try.prog 63 #[.agg #[.int .i64 (rO q.cond[j]),y1,y2,y3,y4,y5,y6]] wp (sV (fA q.cond[j]) wp)):=zH (uG q.cond[j] _ wp hok hre hbe (by omega));unfold sV at HQ;generalize q.cond[j]=E at *;have q1:=(HKB.out.old AB.out).cell 1;have r0:wp.cell? ⟨g,o+j*7,none⟩=some (.int .i64 (rO E)):=hc 0 _ rfl;have r1:wp.cell? ⟨g,o+j*7+1,none⟩=some y1:=hc 1 _ rfl;have r2:wp.cell? ⟨g,o+j*7+2,none⟩=some y2:=hc 2 _ rfl;have r3:wp.cell? ⟨g,o+j*7+3,none⟩=some y3:=hc 3 _ rfl;have r4:wp.cell? ⟨g,o+j*7+4,none⟩=some y4:=hc 4 _ rfl;have r5:wp.cell? ⟨g,o+j*7+5,none⟩=some y5:=hc 5 _ rfl;have r6:wp.cell? ⟨g,o+j*7+6,none⟩=some y6:=hc 6 _ rfl;obtain⟨⟨cl,cd⟩,hcd⟩:∃z,oQ n2 E=z:=⟨_,rfl⟩
     have WX:cd<=401/\cl<=16002:=by
      have h1:(oQ n2 E).2<=(fA E).2+1/\(oQ n2 E).1<=(fA E).1+2:=by
       unfold oQ
       split
       ·exact⟨Nat.le_refl _,Nat.le_refl _⟩
       ·exact⟨Nat.le_add_right _ _,Nat.le_add_right _ _⟩
      rw[hcd]at h1;simp only at h1;omega
     have hr2:T.size+((if j=0 then 7 else 5)+cl+wI n2 (j+1) (q.cond.drop (j+1)))=NC:=by
      rw[<-hr]
      show _=T.size+((if j=0 then 7 else 5)+(oQ n2 E).1+wI n2 (j+1) (q.cond.drop (j+1)))
      rw[hcd]
     have hm2:F9 n2 (max dd cd) (q.cond.drop (j+1))=MX:=by
      rw[<-hm]
      show _=F9 n2 (max dd (oQ n2 E).2) (q.cond.drop (j+1))
      rw[hcd]
     unfold oQ at hcd;have HCD:=zH hcd;have HR2:=zH hr2;have lF:=zH hm2;have hTs:T.size<=20000:=by omega
     have hcdb1:=WX.1;have hcdb2:=WX.2;have hlen:(fA E).1<=16000/\(fA E).2<=400:=by omega
     obtain⟨⟨le1,le2⟩,hel⟩:∃z,fA E=z:=⟨_,rfl⟩
     have hcd2:=HCD.out;rw[hel]at HQ hcd2 hlen;simp only at HQ hcd2 hlen;have Sr:=zH hcd2;have hle1:=hlen.1;have hle2:=hlen.2;clear hc hok hbe hre hne hle hr hr2 hm hm2 hcd WX hbw hel hcd2 hlen HCD HR HM;go_wp2_with fail
     refine HQ.out.mono ?_;rintro r w2 ⟨U,rfl,hU,hb2⟩;have HU:=zH hU;have hUs:U.size<=16000:=by rw[hU];exact hle1
     have q1:=((HKB.out.old AB.out).old hb2).cell 1;have r0:=(aU hb2 g _ hg).trans r0;have HB2:=zH (AB.out.trans (hb2.mono AB.out.size));clear hU hb2 HQ r1 r2 r3 r4 r5 r6 AB hg;obtain⟨up,hup⟩:∃z,(decide (1<n2)&&decide (rO E=14))=z:=⟨_,rfl⟩
     have RX:=zH hup;clear hup;go_upto_region 20 with fail
     go_cut[70] (fun v wx=>v=.bool up/\w2=wx)
     case first=>
      as_aux_lemma=>
      have hu:=RX.out
      by_cases h1:1<n2
      ·have hI:(1:Int)<(n2:Int):=by omega
       have Uh:((rO E:Int)==14)=up:=by
        rw[<-hu,decide_eq_true h1,Bool.true_and,Bool.eq_iff_iff,beq_iff_eq,decide_eq_true_eq];omega
       clear h1 hu;cases up
       all_goals
        go_wp2_with fail
        go_meet
        exact⟨rfl,rfl⟩
      ·have hI:¬(1:Int)<(n2:Int):=by omega
       have hst':up=false:=by rw[<-hu,decide_eq_false h1];rfl
       subst hst';clear h1 hu;go_wp2_with fail
       go_meet
       exact⟨rfl,rfl⟩
     case rest=>
     obtain⟨rfl,hwc⟩:=hcut;subst hwc;clear q1 r0;go_upto_if 70 with fail
     go_cut[9,10] (fun v9 v10 wx=>∃U2:ByteArray,v9=.string U2/\v10=.int .i64 cd/\Hid (U2.size=cl)/\w2=wx)
     case first=>
      as_aux_lemma=>
      cases up
      ·have hu:¬(1<n2/\rO E=14):=by
        intro h;have:=RX.out;simp[h.1,h.2]at this
       have hc:=Sr.out;rw[if_neg hu]at hc;injection hc with e1 e2
       subst e1;subst e2;clear hu;go_wp2_with fail
       go_meet
       exact⟨U,rfl,rfl,HU,rfl⟩
      ·have hu:1<n2/\rO E=14:=by simpa using RX.out
       have hc:=Sr.out;rw[if_pos hu]at hc;injection hc with e1 e2
       subst e1;subst e2;have hs1:¬9223372036854775807<1+U.size:=by omega
       have hs2:¬9223372036854775807<((⟨#[40]⟩:ByteArray)++U).size+1:=by rw[ai];show¬9223372036854775807<1+U.size+1;omega
       have hs3:¬9223372036854775807<1+U.size+1:=by omega
       have HZ:Hid ((((⟨#[40]⟩:ByteArray)++U)++(⟨#[41]⟩:ByteArray)).size=le1+2):=zH (by
        rw[ai,ai];have:=HU.out
        show 1+U.size+1=_
        omega)
       clear hu Sr;go_wp2_with fail
       go_meet
       exact⟨_,rfl,by go_num,HZ,rfl⟩
     case rest=>
     obtain⟨U2,rfl,rfl,HZ,hwc⟩:=hcut;subst hwc;have hU2:U2.size<=16002:=by have:=HZ.out;omega
     clear Sr HU RX up;have hmx:max dd cd<=500:=by omega
     by_cases hj0:j=0
     ·as_aux_lemma=>
      subst hj0
      have Qz:Hid ((T++((⟨#[32,87,72,69,82,69,32]⟩:ByteArray)++U2)).size+wI n2 (0+1) (q.cond.drop (0+1))=NC):=zH (by
       rw[ai,ai,HZ.out];have:=HR2.out;rw[if_pos rfl]at this
       show T.size+(7+cl)+_=NC
       omega)
      have hs1:¬9223372036854775807<7+U2.size:=by omega
      have hs2:¬9223372036854775807<T.size+((⟨#[32,87,72,69,82,69,32]⟩:ByteArray)++U2).size:=by rw[ai];show¬9223372036854775807<T.size+(7+U2.size);omega
      have hs3:¬9223372036854775807<T.size+(7+U2.size):=by omega
      have Ul:=zH (HB2.out.alloc HB2.out.size (.cells #[.string ⟨#[32,87,72,69,82,69,32]⟩,.string ⟨#[32,65,78,68,32]⟩] 9));have kk:=Bk.new w2 9 #[.string ⟨#[32,87,72,69,82,69,32]⟩,.string ⟨#[32,65,78,68,32]⟩];have kk0:=kk.cell 0;clear kk HR2 HZ
      by_cases hmd:dd<cd
      ·have JY:(dd:Int)<(cd:Int):=by omega
       have hmm:max dd cd=cd:=by omega
       have hm2:=lF.out;rw[hmm]at hm2;have EZ:=zH hm2;clear hmd hmm hm2 lF hmx;go_wp2
       go_roundw
       case rel=>exact⟨0+1,_,cd,by omega,rfl,by go_num,by go_num,by omega,Qz,EZ,Ul⟩
       case measure=>simp[intOf];omega
      ·have JY:¬(dd:Int)<(cd:Int):=by omega
       have hmm:max dd cd=dd:=by omega
       have hm2:=lF.out;rw[hmm]at hm2;have EZ:=zH hm2;clear hmd hmm hm2 lF hmx;go_wp2
       go_roundw
       case rel=>exact⟨0+1,_,dd,by omega,rfl,by go_num,by go_num,by omega,Qz,EZ,Ul⟩
       case measure=>simp[intOf];omega
     ·by_cases hj1:j=1
      ·as_aux_lemma=>
       subst hj1
       have Qz:Hid ((T++((⟨#[32,65,78,68,32]⟩:ByteArray)++U2)).size+wI n2 (1+1) (q.cond.drop (1+1))=NC):=zH (by
        rw[ai,ai,HZ.out];have:=HR2.out;rw[if_neg (by decide)]at this
        show T.size+(5+cl)+_=NC
        omega)
       have hs1:¬9223372036854775807<5+U2.size:=by omega
       have hs2:¬9223372036854775807<T.size+((⟨#[32,65,78,68,32]⟩:ByteArray)++U2).size:=by rw[ai];show¬9223372036854775807<T.size+(5+U2.size);omega
       have hs3:¬9223372036854775807<T.size+(5+U2.size):=by omega
       have Ul:=zH (HB2.out.alloc HB2.out.size (.cells #[.string ⟨#[32,87,72,69,82,69,32]⟩,.string ⟨#[32,65,78,68,32]⟩] 9));have kk:=Bk.new w2 9 #[.string ⟨#[32,87,72,69,82,69,32]⟩,.string ⟨#[32,65,78,68,32]⟩];have kk1:=kk.cell 1;clear kk HR2 HZ
       by_cases hmd:dd<cd
       ·have JY:(dd:Int)<(cd:Int):=by omega
        have hmm:max dd cd=cd:=by omega
        have hm2:=lF.out;rw[hmm]at hm2;have EZ:=zH hm2;clear hmd hmm hm2 lF hmx;go_wp2
        go_roundw
        case rel=>exact⟨1+1,_,cd,by omega,rfl,by go_num,by go_num,by omega,Qz,EZ,Ul⟩
        case measure=>simp[intOf];omega
       ·have JY:¬(dd:Int)<(cd:Int):=by omega
        have hmm:max dd cd=dd:=by omega
        have hm2:=lF.out;rw[hmm]at hm2;have EZ:=zH hm2;clear hmd hmm hm2 lF hmx;go_wp2
        go_roundw
        case rel=>exact⟨1+1,_,dd,by omega,rfl,by go_num,by go_num,by omega,Qz,EZ,Ul⟩
        case measure=>simp[intOf];omega
      ·as_aux_lemma=>
       have hjI:¬(j:Int)<=1:=by omega
       have Qz:Hid ((T++((⟨#[32,65,78,68,32]⟩:ByteArray)++U2)).size+wI n2 (j+1) (q.cond.drop (j+1))=NC):=zH (by
        rw[ai,ai,HZ.out];have:=HR2.out;rw[if_neg hj0]at this
        show T.size+(5+cl)+_=NC
        omega)
       have hs1:¬9223372036854775807<5+U2.size:=by omega
       have hs2:¬9223372036854775807<T.size+((⟨#[32,65,78,68,32]⟩:ByteArray)++U2).size:=by rw[ai];show¬9223372036854775807<T.size+(5+U2.size);omega
       have hs3:¬9223372036854775807<T.size+(5+U2.size):=by omega
       have Ul:=zH (HB2.out.alloc HB2.out.size (.cells #[.string ⟨#[32,87,72,69,82,69,32]⟩,.string ⟨#[32,65,78,68,32]⟩] 9));have kk:=Bk.new w2 9 #[.string ⟨#[32,87,72,69,82,69,32]⟩,.string ⟨#[32,65,78,68,32]⟩];have kk1:=kk.cell 1;clear kk HR2 HZ hj0 hj1
       by_cases hmd:dd<cd
       ·have JY:(dd:Int)<(cd:Int):=by omega
        have hmm:max dd cd=cd:=by omega
        have hm2:=lF.out;rw[hmm]at hm2;have EZ:=zH hm2;clear hmd hmm hm2 lF hmx;go_wp2
        go_roundw
        case rel=>exact⟨j+1,_,cd,by omega,rfl,by go_num,by go_num,by omega,Qz,EZ,Ul⟩
        case measure=>simp[intOf];omega
       ·have JY:¬(dd:Int)<(cd:Int):=by omega
        have hmm:max dd cd=dd:=by omega
        have hm2:=lF.out;rw[hmm]at hm2;have EZ:=zH hm2;clear hmd hmm hm2 lF hmx;go_wp2
        go_roundw
        case rel=>exact⟨j+1,_,dd,by omega,rfl,by go_num,by go_num,by omega,Qz,EZ,Ul⟩
        case measure=>simp[intOf];omega
    ·as_aux_lemma=>
     obtain rfl:j=n2:=by omega
     have hr:=HR.out;have hm:=HM.out;rw[List.drop_eq_nil_of_le (by have:=HL2.out;omega)]at hr hm;have hTN:T.size=NC:=by simpa[wI]using hr
     have hdM:dd=MX:=hm;subst hdM;have HTN:=zH hTN;have hTb:T.size<=20000:=by omega
     have hlq:La q=T.size+(18+yF st+iK win)+(if q.key=[]then 0 else 14+q.key.length):=by
      unfold La;rw[hTN,<-HNC.out,HSN.out,<-BR.out,<-HL2.out,HSTQ.out,HWNQ.out]
     have HLQ:=zH hlq;have hmq:F9 q.cond.length 0 q.cond=dd:=by rw[<-HL2.out];exact HMX.out
     have hR:=Me.out;rw[hmq]at hR;have HR6:=zH hR;clear hr hm hTN hlq hmq hR HR HM Me HNC HSN BR HMX HL2 vJ QE WT HNQE;have kq:=HKB.out.old AB.out;have q2:=kq.cell 2;have q3:=kq.cell 3;clear kq;obtain⟨ix,hix⟩:∃ix,st=ix+1:=⟨st-1,by have:=IJ.out.2.2.1.1;omega⟩
     have hix3:ix<3:=by have:=IJ.out.2.2.1.2;omega
     obtain⟨G,hGx,QD⟩:∃G:ByteArray,(#[.string ⟨#[83,84,82,73,67,84]⟩,.string ⟨#[78,69,88,84]⟩,.string ⟨#[65,78,89]⟩]:Array Value)[ix]? =some (.string G)/\G.size=yF st:=by
      rw[hix]
      match ix,hix3 with
      |0,_=>exact⟨_,rfl,rfl⟩
      |1,_=>exact⟨_,rfl,rfl⟩
      |2,_=>exact⟨_,rfl,rfl⟩
     have hG6:G.size<=6:=by
      rw[QD,hix]
      match ix,hix3 with
      |0,_|1,_|2,_=>decide
     obtain⟨D,hD⟩:∃D,bytes (Lib.itoa (win:Int))=D:=⟨_,rfl⟩
     have hDs:D.size=iK win:=by rw[<-hD];rfl
     have hwb:win<=9223372036854775807:=HWIN.out;have hD20:D.size<=20:=by rw[hDs];exact qU win hwb
     have HDC:Hid (∀W:World,Calls Try.prog 64 #[.int .i64 win] W fun e w'=>e=.returned (.string D)/\Below W.heap.size W w'):=zH fun W=>by
      have:=yg (win:Int) ⟨by omega,by omega⟩ W
      rwa [hD]at this
     have X8:=zH QD;have WC:=zH hDs;have hsub:(st:Int)-1=(ix:Int):=by omega
     have WH:IntKind.i64.wrap (ix:Int)=(ix:Int):=by rw[IntKind.wrap_i64];omega
     have WI:(ix:Int)<3:=by omega
     have hs1:¬9223372036854775807<10+G.size:=by omega
     have hs2:¬9223372036854775807<((⟨#[32,83,84,82,65,84,69,71,89,32]⟩:ByteArray)++G).size+8:=by rw[ai];show¬9223372036854775807<10+G.size+8;omega
     have hs3:¬9223372036854775807<10+G.size+8:=by omega
     have hs4:¬9223372036854775807<(((⟨#[32,83,84,82,65,84,69,71,89,32]⟩:ByteArray)++G)++(⟨#[32,87,73,84,72,73,78,32]⟩:ByteArray)).size+D.size:=by rw[ai,ai];show¬9223372036854775807<10+G.size+8+D.size;omega
     have hs5:¬9223372036854775807<10+G.size+8+D.size:=by omega
     have hs6:¬9223372036854775807<T.size+((((⟨#[32,83,84,82,65,84,69,71,89,32]⟩:ByteArray)++G)++(⟨#[32,87,73,84,72,73,78,32]⟩:ByteArray))++D).size:=by rw[ai,ai,ai];show¬9223372036854775807<T.size+(10+G.size+8+D.size);omega
     have hs7:¬9223372036854775807<T.size+(10+G.size+8+D.size):=by omega
     clear hD hDs QD hix hwb hix3 HSTQ HWNQ HWIN;go_upto_region 25 with fail
     obtain⟨W,hW⟩:∃W,wp=W:=⟨_,rfl⟩
     subst hW;refine cZ 14 (fun k=>false) (by kernel_rfl) (fun qk=>(OT gx st win ix T G D).getD qk .any) (by kernel_rfl) ?_ ?_
     ·refine aj.TM rfl [] [4] rfl rfl (by kernel_rfl) (by kernel_rfl) (fun qK qa wr hB qO qF hK=>?_) ?_
      ·have e4:qa.tmps[4]? =some (.string T):=qO.1.trans rfl;clear qO qF;go_simp;exact hK _ _ zR rfl
      refine aj.cons rfl [] [] rfl rfl (by kernel_rfl) (by kernel_rfl) (fun qK qa wr hB qO qF hK=>?_) ?_
      ·clear qO qF;go_simp;exact hK _ _ (zR.alloc zL _) ⟨_,rfl,Bk.new _ _ _⟩
      refine aj.cons rfl [] [1] rfl rfl (by kernel_rfl) (by kernel_rfl) (fun qK qa wr hB qO qF hK=>?_) ?_
      ·have e1:qa.tmps[1]? =some (.pointer (some ⟨gx,0,none⟩)):=qO.1.trans rfl;clear qO qF;go_simp;exact hK _ _ zR rfl
      refine aj.cons rfl [2] [] rfl rfl (by kernel_rfl) (by kernel_rfl) (fun qK qa wr hB qO qF hK=>?_) ?_
      ·have e91:=aH qF.1 rfl rfl;clear qO qF;have hq2:=zE hB q2;go_simp;exact hK _ _ zR rfl
      refine aj.cons rfl [3] [] rfl rfl (by kernel_rfl) (by kernel_rfl) (fun qK qa wr hB qO qF hK=>?_) ?_
      ·have e92:=aH qF.1 rfl rfl;clear qO qF;go_simp;exact hK _ _ zR (by first|rfl|(show(_:Value)=_;simp;omega))
      refine aj.cons rfl [1,4] [] rfl rfl (by kernel_rfl) (by kernel_rfl) (fun qK qa wr hB qO qF hK=>?_) ?_
      ·obtain⟨u90,e90,r1⟩:=qF.1;obtain⟨g90,h90,k90⟩:=(show∃g,u90=.slice (some ⟨g,0,none⟩) 3 3/\Bk wr g 9 #[.string {data:=#[83,84,82,73,67,84]},.string {data:=#[78,69,88,84]},.string {data:=#[65,78,89]}]from r1)
       subst h90;have e90:qa.tmps[90]? =some (.slice (some ⟨g90,0,none⟩) 3 3):=e90;have X5:=aH qF.2.1 rfl rfl;clear qO qF;go_simp;exact hK _ _ zR ⟨g90,by first|rfl|simp,k90⟩
      refine aj.cons rfl [5] [] rfl rfl (by kernel_rfl) (by kernel_rfl) (fun qK qa wr hB qO qF hK=>?_) ?_
      ·obtain⟨u94,e94,r5⟩:=qF.1;obtain⟨g94,h94,k94⟩:=(show∃g,u94=.pointer (some ⟨g,ix,none⟩)/\Bk wr g 9 #[.string ⟨#[83,84,82,73,67,84]⟩,.string ⟨#[78,69,88,84]⟩,.string ⟨#[65,78,89]⟩]from r5)
       subst h94;have e94:qa.tmps[94]? =some (.pointer (some ⟨g94,ix,none⟩)):=e94;clear qO qF;have hcg:wr.cell? ⟨g94,ix,none⟩=some (.string G):=(k94.cell ix).trans hGx;go_simp;exact hK _ _ zR rfl
      refine aj.cons rfl [6] [] rfl rfl (by kernel_rfl) (by kernel_rfl) (fun qK qa wr hB qO qF hK=>?_) ?_
      ·have e95:=aH qF.1 rfl rfl;clear qO qF;go_simp;exact hK _ _ zR rfl
      refine aj.cons rfl [7] [] rfl rfl (by kernel_rfl) (by kernel_rfl) (fun qK qa wr hB qO qF hK=>?_) ?_
      ·have e96:=aH qF.1 rfl rfl;clear qO qF;go_simp;exact hK _ _ zR rfl
      refine aj.cons rfl [] [1] rfl rfl (by kernel_rfl) (by kernel_rfl) (fun qK qa wr hB qO qF hK=>?_) ?_
      ·have e1:qa.tmps[1]? =some (.pointer (some ⟨gx,0,none⟩)):=qO.1.trans rfl;clear qO qF;go_simp;exact hK _ _ zR rfl
      refine aj.cons rfl [9] [] rfl rfl (by kernel_rfl) (by kernel_rfl) (fun qK qa wr hB qO qF hK=>?_) ?_
      ·have e98:=aH qF.1 rfl rfl;clear qO qF;have hq3:=zE hB q3;go_simp;exact hK _ _ zR rfl
      refine aj.cons rfl [10] [] rfl rfl (by kernel_rfl) (by kernel_rfl) (fun qK qa wr hB qO qF hK=>?_) ?_
      ·have e99:=aH qF.1 rfl rfl;clear qO qF;go_simp
       go_at_call 64
       refine(HDC.out wr).mono ?_;rintro r w9 ⟨rfl,dZ⟩;exact hK _ _ dZ rfl
      refine aj.cons rfl [8,11] [] rfl rfl (by kernel_rfl) (by kernel_rfl) (fun qK qa wr hB qO qF hK=>?_) ?_
      ·have e97:=aH qF.1 rfl rfl;have e100:=aH qF.2.1 rfl rfl;clear qO qF;go_simp;exact hK _ _ zR rfl
      refine aj.cons rfl [0,12] [] rfl rfl (by kernel_rfl) (by kernel_rfl) (fun qK qa wr hB qO qF hK=>?_) ?_
      ·have e89:=aH qF.1 rfl rfl;have e101:=aH qF.2.1 rfl rfl;clear qO qF;go_simp;exact hK _ _ zR rfl
      exact aj.nil
     intro vals wr hl hB hR hS
     match vals,hl with
     |[z89,z90,z91,z92,z93,z94,z95,z96,z97,z98,z99,z100,z101,z102],_=>
     have r13:z102=.string (T++((((⟨#[32,83,84,82,65,84,69,71,89,32]⟩:ByteArray)++G)++(⟨#[32,87,73,84,72,73,78,32]⟩:ByteArray))++D)):=hR 13 _ rfl;subst r13;clear hS;clear hR;simp only[List.take_succ_cons,List.take_zero,List.drop_succ_cons,List.drop_zero,List.toList_toArray,List.cons_append,List.nil_append,aN,Act.put,List.setIfInBounds_toArray,List.set_cons_zero,List.set_cons_succ];have wY:=zH (AB.out.trans (hB.mono AB.out.size));have q4:=(HKB.out.old wY.out).cell 4;clear q2 q3 hB HDC AB hGx hsub WH WI hs1 hs2 hs3 hs4 hs5 hs6;go_upto_region 26 with fail
     obtain⟨S9,hS9⟩:∃z,(T++((((⟨#[32,83,84,82,65,84,69,71,89,32]⟩:ByteArray)++G)++(⟨#[32,87,73,84,72,73,78,32]⟩:ByteArray))++D))=z:=⟨_,rfl⟩
     have WY:S9.size=T.size+(18+yF st+iK win):=by
      rw[<-hS9,ai,ai,ai,ai,<-X8.out,<-WC.out]
      show T.size+(10+G.size+8+D.size)=_
      omega
     rw[hS9];have HS9:=zH WY;have hS9b:S9.size<=20100:=by rw[WY,<-X8.out,<-WC.out];omega
     have hK24:K.size<=24:=by
      rw[<-HKK.out,bJ];exact IJ.out.2.2.2.2.1
     have hkl:q.key=K.toList:=by rw[<-HKK.out,aJ]
     have Oo:=zH hkl;clear hS9 WY X8 WC hG6 hD20 hs7 hkl;go_upto_if 105 with fail
     generalize hke:K.toList.isEmpty=ke;have X4:=zH hke;clear hke
     go_cut[4] (fun v wx=>∃S2:ByteArray,v=.string S2/\Hid (S2.size=La q)/\wr=wx)
     case first=>
      as_aux_lemma=>
      cases ke
      rotate_left
      ·have hk0:K.toList=[]:=by have:=X4.out;simpa using this
       have HZ:Hid (S9.size=La q):=zH (by
        rw[HLQ.out,Oo.out,hk0,if_pos rfl,HS9.out]
        rfl)
       clear hk0;go_wp2_with fail
       go_meet
       exact⟨_,rfl,HZ,rfl⟩
      ·have hk0:¬K.toList=[]:=by intro h;have:=X4.out;rw[h]at this;cases this
       have hs1:¬9223372036854775807<14+K.size:=by omega
       have hs2:¬9223372036854775807<S9.size+((⟨#[32,80,65,82,84,73,84,73,79,78,32,66,89,32]⟩:ByteArray)++K).size:=by rw[ai];show¬9223372036854775807<S9.size+(14+K.size);omega
       have hs3:¬9223372036854775807<S9.size+(14+K.size):=by omega
       have HZ:Hid ((S9++((⟨#[32,80,65,82,84,73,84,73,79,78,32,66,89,32]⟩:ByteArray)++K)).size=La q):=zH (by
        rw[HLQ.out,Oo.out,if_neg hk0,ai,ai,HS9.out,bI]
        rfl)
       clear hk0;go_wp2_with fail
       go_meet
       exact⟨_,rfl,HZ,rfl⟩
     case rest=>
     obtain⟨S2,rfl,HZ,hwc⟩:=hcut;subst hwc;have HF:=zH (HB0.out.trans (wY.out.mono HB0.out.size));have hR:=HR6.out;rw[<-HZ.out]at hR;have HR7:=zH hR;clear q4 HR6 hR HLQ Oo HS9 hS9b hK24 HZ wY IJ
     by_cases h40:4000<S2.size
     ·as_aux_lemma=>
      have hI:(4000:Int)<(S2.size:Int):=by omega
      have hR:=HR7.out;rw[if_pos h40]at hR;subst hR;clear h40 HR7;go_wp2
      go_ret2
      first|exact⟨_,rfl,HF.out⟩|exact⟨⟨_,rfl⟩,HF.out⟩|exact⟨⟨_,rfl⟩,by rw[<-Bh.out];exact HF.out⟩|exact⟨_,rfl,by rw[<-Bh.out];exact HF.out⟩|exact HF.out|(rw[<-Bh.out];exact HF.out)|(rw[Bh.out];exact HF.out)
     ·have hI:¬(4000:Int)<(S2.size:Int):=by omega
      have hR:=HR7.out;rw[if_neg h40]at hR;have HR8:=zH hR;clear h40 HR7 hR
      by_cases h30:30<dd
      ·as_aux_lemma=>
       have hI2:(30:Int)<(dd:Int):=by omega
       have hR:=HR8.out;rw[if_pos h30]at hR;subst hR;clear h30 HR8;go_wp2
       go_ret2
       first|exact⟨_,rfl,HF.out⟩|exact⟨⟨_,rfl⟩,HF.out⟩|exact⟨⟨_,rfl⟩,by rw[<-Bh.out];exact HF.out⟩|exact⟨_,rfl,by rw[<-Bh.out];exact HF.out⟩|exact HF.out|(rw[<-Bh.out];exact HF.out)|(rw[Bh.out];exact HF.out)
      ·as_aux_lemma=>
       have hI2:¬(30:Int)<(dd:Int):=by omega
       have hR:=HR8.out;rw[if_neg h30]at hR;subst hR;clear h30 HR8;go_wp2
       go_ret2
       first|exact⟨_,rfl,HF.out⟩|exact⟨⟨_,rfl⟩,HF.out⟩|exact⟨⟨_,rfl⟩,by rw[<-Bh.out];exact HF.out⟩|exact⟨_,rfl,by rw[<-Bh.out];exact HF.out⟩|exact HF.out|(rw[<-Bh.out];exact HF.out)|(rw[Bh.out];exact HF.out)
end Go.Proofs.Ytbjnhllkdilpfaa
