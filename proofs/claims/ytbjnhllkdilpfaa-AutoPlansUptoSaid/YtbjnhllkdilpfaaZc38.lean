/- Part 38 of the proof. No conditions. -/
import Derived.Test.YtbjnhllkdilpfaaZc37
namespace Go.Proofs.Ytbjnhllkdilpfaa
open Go.RowKit
set_option maxRecDepth 100000
set_option maxHeartbeats 16000000
set_option linter.unusedVariables false
set_option linter.unusedSimpArgs false
def BB:Nat->List (List aZ)->Nat
 |_,[]=>0
 |i,l::r=>(if 0<i then 3 else 0)+jO l+BB (i+1) r
def pU (n:Nat) (e:ax):Nat×Nat:=if 1<n/\tN e=14 then((dQ e).1+2,(dQ e).2+1)else dQ e
def xY (n:Nat):Nat->List ax->Nat
 |_,[]=>0
 |i,e::r=>(if i=0 then 7 else 5)+(pU n e).1+xY n (i+1) r
def Iz (n:Nat):Nat->List ax->Nat
 |d,[]=>d
 |d,e::r=>Iz n (max d (pU n e).2) r
def zJ (st:Nat):Nat:=([6,4,3]:List Nat).getD (st-1) 0
def OJ (q:bK):Nat:=8+BB 0 q.branches+xY q.cond.length 0 q.cond+(18+zJ q.aP+iU q.window)+(if q.key=[]then 0 else 14+q.key.length)
def qZ (q:bK):Nat:=
 if mD q=false then 3
 else if 4<q.branches.length\/200<iJ q then 2
 else if q.branches.any (fun l=>decide (8<l.length))=true then 2
 else if 4000<OJ q then 2
 else if 30<Iz q.cond.length 0 q.cond then 14 else 0
theorem MZ (n:Nat):∀(l:List ax) (i:Nat),(∀e∈l,dM e=true/\kF e)->xY n i l<=90*aV i l
 |[],i,_=>Nat.le_refl _
 |e::r,i,h=>by
  have h1:=qX e (h e (by simp)).1 (h e (by simp)).2;have h2:=MZ n r (i+1) fun x hx=>h x (by simp[hx])
  have h3:1<=aB e:=by cases e<;>simp[aB]<;>omega
  have h4:(pU n e).1<=(dQ e).1+2:=by unfold pU;split<;>simp
  have h5:(if i=0 then 7 else 5:Nat)<=7:=by split<;>omega
  rw[mf]
  show(if i=0 then 7 else 5)+(pU n e).1+xY n (i+1) r<=_
  omega
theorem uQ:∀(l:List ax) (i:Nat),∀e∈l,aB e<=aV i l
 |[],i,e,h=>by simp at h
 |x::r,i,e,h=>by
  rw[mf];rcases List.mem_cons.1 h with rfl|h
  ·omega
  ·have:=uQ r (i+1) e h;omega
theorem yO {q:bK} (h:mD q=true):(∀l∈q.branches,EU l)/\(∀e∈q.cond,dM e=true)/\(1<=q.aP/\q.aP<=3)/\q.window<=1152921504606846976/\q.key.length<=24/\(∀l∈q.branches,0<l.length)/\0<q.branches.length:=by
 unfold mD EY at h;simp only[Bool.and_eq_true,decide_eq_true_eq,Bool.or_eq_true,List.all_eq_true]at h;refine⟨fun l hl x hx=>?_,fun e he=>?_,⟨h.1.1.1.1.1.2,h.1.1.1.1.2⟩,h.1.1.1.2,?_,fun l hl=>?_,h.1.1.1.1.1.1⟩
 ·have h1:=h.1.2 l hl;unfold Iy at h1;simp only[Bool.and_eq_true,decide_eq_true_eq,List.all_eq_true]at h1;have h2:=h1.2 x hx;unfold qY at h2;simp only[Bool.and_eq_true]at h2;exact⟨sJ h2.1.2,sJ h2.2⟩
 ·have h1:=h.2 e he;unfold zh at h1;simp only[Bool.and_eq_true]at h1;exact h1.2
 ·rcases h.1.1.2 with h1|h1
  ·have:=jy h1;omega
  ·exact sJ h1
 ·have h1:=h.1.2 l hl;unfold Iy at h1;simp only[Bool.and_eq_true,decide_eq_true_eq]at h1;exact h1.1
def EZ (q:bK) (w:World) (e:Ending) (w':World):Prop:=∃S:ByteArray,e=.returned (.tuple #[.string S,.int .i64 (qZ q:Nat)])/\Below w.heap.size w w'
theorem print_any (B : Nat) (w : World) (q : bK) (A1 A2 : Option Addr) (n1 n2 c1 c2 : Nat) (hbr : jY B w (.slice A1 n1 c1) q.branches) (hwh : yI B w (.slice A2 n2 c2) q.cond) (hbd : ∀ e ∈ q.cond, kF e) (hn : n1 ≤ 1000 ∧ n2 ≤ 100000) (hst : q.aP ≤ 1000) (hwin : q.window ≤ 9223372036854775807) (hit : ∀ l ∈ q.branches, l.length ≤ 1000) (hnq : iJ q ≤ 1000000) :
  Calls Try.prog 45 #[.agg (q.cells (.slice A1 n1 c1) (.slice A2 n2 c2)).toArray] w (EZ q w):=by
 have hl1:=hbr.len;have hl2:=hwh.len;have OH:=zH hbr;have Zn:=zH hwh;have Fz:=zH hbd;have vP:=zH hl1;have HL2:=zH hl2;have HIT:=zH hit;have Oz:Hid (∀W,Below w.heap.size w W->Calls Try.prog 61 #[.agg #[.slice A1 n1 c1,.slice A2 n2 c2,.int .i64 q.aP,.int .i64 q.window,.string (bytes q.key),.int .i64 q.keyAt]] W fun r w'=>r=.returned (.bool (mD q))/\Below W.heap.size W w'):=zH fun W hW=>KN B W q A1 A2 n1 n2 c1 c2 (hbr.old hW) (hwh.old hW) hbd hn hst hwin hit
 have pR:Hid (∀W,Below w.heap.size w W->Calls Try.prog 43 #[.agg #[.slice A1 n1 c1,.slice A2 n2 c2,.int .i64 q.aP,.int .i64 q.window,.string (bytes q.key),.int .i64 q.keyAt]] W fun r w'=>r=.returned (.int .i64 (iJ q:Nat))/\Below W.heap.size W w'):=zH fun W hW=>by
  obtain⟨css,h1,h2⟩:=hwh.old hW;obtain⟨A0,c0,hv,_⟩:=bg h1;injection hv with hA hnn hc
  subst hA hnn hc;exact Bf B W q (.slice A1 n1 c1) A2 c2 css h1 h2 hnq
 obtain⟨RT,hrt⟩:∃z,mD q=z:=⟨_,rfl⟩
 obtain⟨NQ,Zp⟩:∃z,iJ q=z:=⟨_,rfl⟩
 obtain⟨RES,hres⟩:∃R,qZ q=R:=⟨_,rfl⟩
 have Sz:=zH (fun h:mD q=true=>yO h);unfold EZ;rw[hres];unfold qZ at hres;rw[hrt]at Oz hres;rw[Zp]at pR hres hnq;have HRTE:=zH hrt;have HNQE:=zH Zp;have aG:=zH hres;have HWIN:=zH hwin;obtain⟨hn1,hn2⟩:=hn;obtain⟨K,hK⟩:∃K,bytes q.key=K:=⟨_,rfl⟩
 have HKK:=zH hK;rw[hK]at Oz pR;unfold bK.cells iK;clear hbr hwh hbd hl1 hl2 hit hres hrt Zp hwin;simp only[hK];clear hK;generalize hstq:q.aP=st at *;generalize hwnq:q.window=win at *;generalize q.keyAt=ka at *;have HSTQ:=zH hstq;have HWNQ:=zH hwnq;clear hstq hwnq
 go_enter Try.func45,Try.ntmps45
 have kb:=Bk.new w 80 #[.slice A1 n1 c1,.slice A2 n2 c2,.int .i64 st,.int .i64 win,.string K,.int .i64 ka];have HB0:=zH ((Below.refl w.heap.size w).alloc zL (.cells #[.slice A1 n1 c1,.slice A2 n2 c2,.int .i64 st,.int .i64 win,.string K,.int .i64 ka] 80));go_upto_region 1 with fail
 generalize w.alloc (.cells #[.slice A1 n1 c1,.slice A2 n2 c2,.int .i64 st,.int .i64 win,.string K,.int .i64 ka] 80)=w0 at *;obtain⟨gx,hgx⟩:∃z,w.heap.size=z:=⟨_,rfl⟩
 have CO:=zH hgx;rw[hgx]at kb⊢;have HKB:=zH kb;have hgl:=kb.lt;obtain⟨q0,q1,q2,q3,q4,q5⟩:=zc6 kb;clear kb hgx;go_wp2_with fail
 refine(Oz.out w0 HB0.out).mono ?_;rintro r w1 ⟨rfl,hb1⟩;have HB1:=zH hb1;clear hb1 q0 q1 q2 q3 q4 q5 Oz;cases RT
 case false=>
  as_aux_lemma=>
  have hR:=aG.out;rw[if_pos rfl]at hR;subst hR;have HF:=zH (HB0.out.trans (HB1.out.mono HB0.out.size));clear aG;go_wp2
  go_ret2
  exact⟨_,rfl,by first|exact HF.out|(rw[<-CO.out];exact HF.out)|(rw[CO.out];exact HF.out)⟩
 case true=>
 have hR:=aG.out;rw[if_neg (by decide)]at hR;have hshort:=Sz.out HRTE.out;have KO:=zH hshort;have HR2:=zH hR;clear aG hR hshort Sz;obtain⟨big,hbig⟩:∃z,(decide (4<n1)||decide (200<NQ))=z:=⟨_,rfl⟩
 have VV:=zH hbig;clear hbig;have kq:=HKB.out.old HB1.out;obtain⟨q0,q1,q2,q3,q4,q5⟩:=zc6 kq;clear kq;go_upto_region 3 with fail
 go_cut[22] (fun v wx=>v=.bool big/\Hid (Below w0.heap.size w0 wx))
 case first=>
  as_aux_lemma=>
  have hb:=VV.out
  by_cases h4:4<n1
  ·have hI:(4:Int)<(n1:Int):=by omega
   have hst':big=true:=by rw[<-hb,decide_eq_true h4];rfl
   subst hst';clear h4 hb;go_wp2_with fail
   go_meet
   exact⟨rfl,HB1⟩
  ·have hI:¬(4:Int)<(n1:Int):=by omega
   have hst':big=decide (200<NQ):=by rw[<-hb,decide_eq_false h4];rfl
   have HST:=zH hst';have HN:=zH (pR.out w1 (HB0.out.trans (HB1.out.mono HB0.out.size)));clear h4 hb hst';go_wp2_with fail
   refine HN.out.mono ?_;rintro r w2 ⟨rfl,hb2⟩;have HB2:=zH (HB1.out.trans (hb2.mono HB1.out.size));clear hb2 HN pR
   by_cases h2:200<NQ
   ·have hI2:(200:Int)<(NQ:Int):=by omega
    have hs:big=true:=by rw[HST.out,decide_eq_true h2]
    subst hs;clear h2;go_wp2_with fail
    go_meet
    exact⟨rfl,HB2⟩
   ·have hI2:¬(200:Int)<(NQ:Int):=by omega
    have hI3:decide ((200:Int)<(NQ:Int))=false:=decide_eq_false hI2;have hs:big=false:=by rw[HST.out,decide_eq_false h2]
    subst hs;clear h2;go_wp2_with fail
    go_meet
    exact⟨rfl,HB2⟩
 case rest=>
 obtain⟨rfl,HB⟩:=hcut;clear q0 q1 q2 q3 q4 q5 HB1 pR;cases big
 case true=>
  as_aux_lemma=>
  have hR:=HR2.out;have hb:=VV.out
  rw[if_pos (by
   rw[<-vP.out]
   simpa using hb)]at hR
  subst hR;have HF:=zH (HB0.out.trans (HB.out.mono HB0.out.size));clear HR2 hb;go_wp2
  go_ret2
  exact⟨_,rfl,by first|exact HF.out|(rw[<-CO.out];exact HF.out)|(rw[CO.out];exact HF.out)⟩
 case false=>
 have hb:=VV.out
 have hsm:n1<=4/\NQ<=200:=by
  have h:=hb;simp at h;omega
 have hR:=HR2.out;rw[if_neg (by rw[<-vP.out];omega)]at hR;have HR3:=zH hR;obtain⟨hn4,hnq2⟩:=hsm;clear hR HR2 hb VV hnq hn1;obtain⟨SB,hany⟩:∃z,q.branches.any (fun l=>decide (8<l.length))=z:=⟨_,rfl⟩
 have hR:=HR3.out;rw[hany]at hR;have HR4:=zH hR;have HANY:Hid ((q.branches.drop 0).any (fun l=>decide (8<l.length))=SB):=zH (by rw[List.drop_zero];exact hany);have HSB:Hid (8+BB 0 (q.branches.drop 0)=8+BB 0 q.branches):=zH (by rw[List.drop_zero]);clear hR HR3 hany;have q0:=(HKB.out.old HB.out).cell 0;go_wp2_with fail
 clear q0;have hsbb:BB 0 q.branches<=0+BB 0 q.branches:=by omega
 obtain⟨NB,Xy⟩:∃z,8+BB 0 q.branches=z:=⟨_,rfl⟩
 have Zq:=HSB.out;rw[Xy]at Zq;have HSBN:=zH Zq;have xu:=zH Xy;clear HSB Zq Xy hsbb
 go_loopw[4,26] (fun s i wr=>∃(k:Nat) (S:ByteArray),k<=n1/\s=.string S/\i=.int .i64 k/\S.size<=8+488*k/\Hid (S.size+BB k (q.branches.drop k)=NB)/\Hid ((q.branches.drop k).any (fun l=>decide (8<l.length))=SB)/\Hid (Below w0.heap.size w0 wr)) (fun _ i _=>n1-(intOf i).toNat)
 case atStart=>exact⟨0,_,Nat.zero_le _,rfl,rfl,Nat.le_refl _,HSBN,HANY,HB⟩
 case round=>
  clear HSBN HANY HB;obtain⟨k,S,hk,rfl,rfl,hsl,HR,HAN,HB⟩:=hrel;obtain⟨wo,rfl⟩:∃wo:World,wo=wr:=⟨_,rfl⟩
  by_cases hlt:k<n1
  ·as_aux_lemma=>
   have hkl:k<q.branches.length:=by have:=vP.out;omega
   have hbw:Below w.heap.size w wo:=HB0.out.trans (HB.out.mono HB0.out.size);obtain⟨g,o,A',c',hA,hg,hc,hrd⟩:=(OH.out.old hbw).get k hkl;subst hA;have hr:=HR.out;have ha:=HAN.out;rw[List.drop_eq_getElem_cons hkl]at hr ha;have hll:=HIT.out q.branches[k] (List.getElem_mem hkl);have hsh:=KO.out.1 q.branches[k] (List.getElem_mem hkl);obtain⟨l,hl⟩:∃l,q.branches[k]=l:=⟨_,rfl⟩
   rw[hl]at hc hrd hr ha hll hsh
   by_cases h8:8<l.length
   ·as_aux_lemma=>
    have hI:(8:Int)<(l.length:Int):=by omega
    have hany:SB=true:=by
     rw[<-ha,List.any_cons,decide_eq_true h8];rfl
    have hR:=HR4.out;rw[hany,if_pos rfl]at hR;subst hR;have HF:=zH hbw;clear hr ha hrd hl HR HAN h8 hsh hany HR4 vP;go_wp2
    go_ret2
    exact⟨_,rfl,by first|exact HF.out|(rw[<-CO.out];exact HF.out)|(rw[CO.out];exact HF.out)⟩
   ·as_aux_lemma=>
    have hI:¬(8:Int)<(l.length:Int):=by omega
    have ha2:(q.branches.drop (k+1)).any (fun l=>decide (8<l.length))=SB:=by
     rw[<-ha,List.any_cons,decide_eq_false h8];rfl
    have HA2:=zH ha2;obtain⟨d1,hd1⟩:∃z,(if 0<k then 3 else 0:Nat)=z:=⟨_,rfl⟩
    have hr2:S.size+(d1+jO l+BB (k+1) (q.branches.drop (k+1)))=NB:=by rw[<-hd1];exact hr
    have HR2':=zH hr2;have HD1:=zH hd1;have hd3:d1<=3:=by rw[<-hd1];split<;>omega
    have hil:=EW l 0 hsh;have HIL:Hid (jO l<=485):=zH (by unfold jO;omega);have RG:Hid (∀W,Below wo.heap.size wo W->Calls Try.prog 62 #[.slice A' l.length c'] W (yM (jO l) W)):=zH fun W hW=>OD l A' c' W ((hrd.below hW).more hW.size) (by omega) hsh
    unfold yM at RG;have hsl2:S.size<=2000:=by omega
    clear hr ha ha2 hd1 hr2 hrd hl h8 hsh hil hll HR HAN HR4 vP hbw hg;generalize jO l=il at *;go_upto_if 35 with fail
    clear hc
    go_cut[4] (fun v wx=>∃S':ByteArray,v=.string S'/\Hid (S'.size=S.size+d1)/\wo=wx)
    case first=>
     as_aux_lemma=>
     by_cases hk0:0<k
     ·have hI2:(0:Int)<(k:Int):=by omega
      have h2:d1=3:=by rw[<-HD1.out,if_pos hk0]
      have hs:¬9223372036854775807<S.size+3:=by omega
      have HZ:Hid ((S++(⟨#[32,124,32]⟩:ByteArray)).size=S.size+d1):=zH (by rw[aj,h2];rfl);clear hk0 h2;go_wp2_with fail
      go_meet
      exact⟨_,rfl,HZ,rfl⟩
     ·have hI2:¬(0:Int)<(k:Int):=by omega
      have h2:d1=0:=by rw[<-HD1.out,if_neg hk0]
      have HZ:Hid (S.size=S.size+d1):=zH (by omega);clear hk0 h2;go_wp2_with fail
      go_meet
      exact⟨_,rfl,HZ,rfl⟩
    case rest=>
    obtain⟨S1,rfl,zF,hwc⟩:=hcut;subst hwc;go_wp2_with fail
    refine(RG.out wo zR).mono ?_;rintro r w4 ⟨T,rfl,hT,hb4⟩;have HT:=zH hT;have HB4:=zH (HB.out.trans (hb4.mono HB.out.size));have hS1:S1.size<=2003:=by have:=zF.out;omega
    have hTb:T.size<=485:=by have:=HIL.out;omega
    have hs1:¬9223372036854775807<S1.size+T.size:=by omega
    have HF:Hid ((S1++T).size+BB (k+1) (q.branches.drop (k+1))=NB):=zH (by
     rw[aj,zF.out,HT.out];have:=HR2'.out
     omega)
    have hbd2:(S1++T).size<=8+488*(k+1):=by
     rw[aj];have:=zF.out;have:=HT.out;have:=HIL.out;omega
    clear hT hb4 RG HB HR2' HD1;go_wp2
    go_roundw
    case rel=>exact⟨k+1,S1++T,by omega,rfl,by go_num,hbd2,HF,HA2,HB4⟩
    case measure=>simp[intOf];omega
  ·
   obtain rfl:k=n1:=by omega
   have hr:=HR.out;have ha:=HAN.out;rw[List.drop_eq_nil_of_le (by have:=vP.out;omega)]at hr ha;have hany:SB=false:=by rw[<-ha];rfl
   have hR:=HR4.out;rw[hany,if_neg (by decide)]at hR;have Jm:=zH hR;have hSN:S.size=NB:=by simpa[BB]using hr
   have HSN:=zH hSN;have hS:S.size<=2000:=by omega
   clear hr ha hany hR HR HAN HR4 hSN OH HIT hsl;have q1:=(HKB.out.old HB.out).cell 1;go_wp2_with fail
   clear q1;obtain⟨NC,hNC⟩:∃z,S.size+xY n2 0 q.cond=z:=⟨_,rfl⟩
   obtain⟨MX,hMX⟩:∃z,Iz n2 0 q.cond=z:=⟨_,rfl⟩
   have hcb:=MZ n2 q.cond 0 fun e he=>⟨KO.out.2.1 e he,Fz.out e he⟩
   have hwn:aV 0 q.cond=NQ:=HNQE.out;have hNCb:NC<=20000:=by rw[hwn]at hcb;omega
   have Jb:Hid (∀e∈q.cond,aB e<=200):=zH fun e he=>by
    have:=uQ q.cond 0 e he;omega
   have H0:Hid (S.size+xY n2 0 (q.cond.drop 0)=NC):=zH (by rw[List.drop_zero];exact hNC);have M0:Hid (Iz n2 0 (q.cond.drop 0)=MX):=zH (by rw[List.drop_zero];exact hMX);have HNC:=zH hNC;have HMX:=zH hMX;clear hNC hMX hcb hwn hlt hk
   go_loopw[4,7,46] (fun s d i wr=>∃(j:Nat) (T:ByteArray) (dd:Nat),j<=n2/\s=.string T/\d=.int .i64 dd/\i=.int .i64 j/\dd<=500/\Hid (T.size+xY n2 j (q.cond.drop j)=NC)/\Hid (Iz n2 dd (q.cond.drop j)=MX)/\Hid (Below w0.heap.size w0 wr)) (fun _ _ i _=>n2-(intOf i).toNat)
   case atStart=>exact⟨0,S,0,Nat.zero_le _,rfl,rfl,rfl,by omega,H0,M0,HB⟩
   case round=>
    clear H0 M0;obtain⟨j,T,dd,hj,rfl,rfl,rfl,hdd,HR,HM,BV⟩:=hrel;obtain⟨wp,rfl⟩:∃wp:World,wp=wr:=⟨_,rfl⟩
    by_cases hlj:j<n2
    ·as_aux_lemma=>
     have hjl:j<q.cond.length:=by have:=HL2.out;omega
     have hbw:Below w.heap.size w wp:=HB0.out.trans (BV.out.mono HB0.out.size);obtain⟨g,o,y0,y1,y2,y3,y4,y5,y6,hA,hg,hok,hc⟩:=(Zn.out.old hbw).get j hjl;subst hA;obtain⟨d1,d2,d3,d4,d5,d6,hcs⟩:=hok.op;injection hcs with h0 hcs
     injection hcs with h1 hcs
     injection hcs with h2 hcs
     injection hcs with h3 hcs
     injection hcs with h4 hcs
     injection hcs with h5 hcs
     injection hcs with h6 hcs
     subst h0 h1 h2 h3 h4 h5 h6;have hr:=HR.out;have hm:=HM.out;rw[List.drop_eq_getElem_cons hjl]at hr hm;have hbe:=Fz.out q.cond[j] (List.getElem_mem hjl);have hre:=KO.out.2.1 q.cond[j] (List.getElem_mem hjl);have hne:=Jb.out q.cond[j] (List.getElem_mem hjl);have hle:=qX q.cond[j] hre hbe;have HQ:Hid (Calls Try.prog 63 #[.agg #[.int .i64 (tN q.cond[j]),y1,y2,y3,y4,y5,y6]] wp (uP (dQ q.cond[j]) wp)):=zH (wJ q.cond[j] _ wp hok hre hbe (by omega));unfold uP at HQ;generalize q.cond[j]=E at *;have q1:=(HKB.out.old BV.out).cell 1;have r0:wp.cell? ⟨g,o+j*7,none⟩=some (.int .i64 (tN E)):=hc 0 _ rfl;have r1:wp.cell? ⟨g,o+j*7+1,none⟩=some y1:=hc 1 _ rfl;have r2:wp.cell? ⟨g,o+j*7+2,none⟩=some y2:=hc 2 _ rfl;have r3:wp.cell? ⟨g,o+j*7+3,none⟩=some y3:=hc 3 _ rfl;have r4:wp.cell? ⟨g,o+j*7+4,none⟩=some y4:=hc 4 _ rfl;have r5:wp.cell? ⟨g,o+j*7+5,none⟩=some y5:=hc 5 _ rfl;have r6:wp.cell? ⟨g,o+j*7+6,none⟩=some y6:=hc 6 _ rfl;obtain⟨⟨cl,cd⟩,hcd⟩:∃z,pU n2 E=z:=⟨_,rfl⟩
     have Zr:cd<=401/\cl<=16002:=by
      have h1:(pU n2 E).2<=(dQ E).2+1/\(pU n2 E).1<=(dQ E).1+2:=by
       unfold pU
       split
       ·exact⟨Nat.le_refl _,Nat.le_refl _⟩
       ·exact⟨Nat.le_add_right _ _,Nat.le_add_right _ _⟩
      rw[hcd]at h1;simp only at h1;omega
     have hr2:T.size+((if j=0 then 7 else 5)+cl+xY n2 (j+1) (q.cond.drop (j+1)))=NC:=by
      rw[<-hr]
      show _=T.size+((if j=0 then 7 else 5)+(pU n2 E).1+xY n2 (j+1) (q.cond.drop (j+1)))
      rw[hcd]
     have hm2:Iz n2 (max dd cd) (q.cond.drop (j+1))=MX:=by
      rw[<-hm]
      show _=Iz n2 (max dd (pU n2 E).2) (q.cond.drop (j+1))
      rw[hcd]
     unfold pU at hcd;have HCD:=zH hcd;have HR2:=zH hr2;have mV:=zH hm2;have hTs:T.size<=20000:=by omega
     have hcdb1:=Zr.1;have hcdb2:=Zr.2;have hlen:(dQ E).1<=16000/\(dQ E).2<=400:=by omega
     obtain⟨⟨le1,le2⟩,hel⟩:∃z,dQ E=z:=⟨_,rfl⟩
     have hcd2:=HCD.out;rw[hel]at HQ hcd2 hlen;simp only at HQ hcd2 hlen;have VW:=zH hcd2;have hle1:=hlen.1;have hle2:=hlen.2;clear hc hok hbe hre hne hle hr hr2 hm hm2 hcd Zr hbw hel hcd2 hlen HCD HR HM;go_wp2_with fail
     refine HQ.out.mono ?_;rintro r w2 ⟨U,rfl,hU,hb2⟩;have HU:=zH hU;have hUs:U.size<=16000:=by rw[hU];exact hle1
     have q1:=((HKB.out.old BV.out).old hb2).cell 1;have r0:=(aT hb2 g _ hg).trans r0;have HB2:=zH (BV.out.trans (hb2.mono BV.out.size));clear hU hb2 HQ r1 r2 r3 r4 r5 r6 BV hg;obtain⟨up,hup⟩:∃z,(decide (1<n2)&&decide (tN E=14))=z:=⟨_,rfl⟩
     have Iq:=zH hup;clear hup;go_upto_region 20 with fail
     go_cut[70] (fun v wx=>v=.bool up/\w2=wx)
     case first=>
      as_aux_lemma=>
      have hu:=Iq.out
      by_cases h1:1<n2
      ·have hI:(1:Int)<(n2:Int):=by omega
       have Us:((tN E:Int)==14)=up:=by
        rw[<-hu,decide_eq_true h1,Bool.true_and,Bool.eq_iff_iff,beq_iff_eq,decide_eq_true_eq];omega
       clear h1 hu;cases up
       all_goals
        go_wp2_with fail
        go_meet
        exact⟨rfl,rfl⟩
      ·have hI:¬(1:Int)<(n2:Int):=by omega
       have hst':up=false:=by rw[<-hu,decide_eq_false h1];rfl
       subst hst';clear h1 hu;go_wp2_with fail
       go_meet
       exact⟨rfl,rfl⟩
     case rest=>
     obtain⟨rfl,hwc⟩:=hcut;subst hwc;clear q1 r0;go_upto_if 70 with fail
     go_cut[9,10] (fun v9 v10 wx=>∃U2:ByteArray,v9=.string U2/\v10=.int .i64 cd/\Hid (U2.size=cl)/\w2=wx)
     case first=>
      as_aux_lemma=>
      cases up
      ·have hu:¬(1<n2/\tN E=14):=by
        intro h;have:=Iq.out;simp[h.1,h.2]at this
       have hc:=VW.out;rw[if_neg hu]at hc;injection hc with e1 e2
       subst e1;subst e2;clear hu;go_wp2_with fail
       go_meet
       exact⟨U,rfl,rfl,HU,rfl⟩
      ·have hu:1<n2/\tN E=14:=by simpa using Iq.out
       have hc:=VW.out;rw[if_pos hu]at hc;injection hc with e1 e2
       subst e1;subst e2;have hs1:¬9223372036854775807<1+U.size:=by omega
       have hs2:¬9223372036854775807<((⟨#[40]⟩:ByteArray)++U).size+1:=by rw[aj];show¬9223372036854775807<1+U.size+1;omega
       have hs3:¬9223372036854775807<1+U.size+1:=by omega
       have HZ:Hid ((((⟨#[40]⟩:ByteArray)++U)++(⟨#[41]⟩:ByteArray)).size=le1+2):=zH (by
        rw[aj,aj];have:=HU.out
        show 1+U.size+1=_
        omega)
       clear hu VW;go_wp2_with fail
       go_meet
       exact⟨_,rfl,by go_num,HZ,rfl⟩
     case rest=>
     obtain⟨U2,rfl,rfl,HZ,hwc⟩:=hcut;subst hwc;have hU2:U2.size<=16002:=by have:=HZ.out;omega
     clear VW HU Iq up;have hmx:max dd cd<=500:=by omega
     by_cases hj0:j=0
     ·as_aux_lemma=>
      subst hj0
      have UM:Hid ((T++((⟨#[32,87,72,69,82,69,32]⟩:ByteArray)++U2)).size+xY n2 (0+1) (q.cond.drop (0+1))=NC):=zH (by
       rw[aj,aj,HZ.out];have:=HR2.out;rw[if_pos rfl]at this
       show T.size+(7+cl)+_=NC
       omega)
      have hs1:¬9223372036854775807<7+U2.size:=by omega
      have hs2:¬9223372036854775807<T.size+((⟨#[32,87,72,69,82,69,32]⟩:ByteArray)++U2).size:=by rw[aj];show¬9223372036854775807<T.size+(7+U2.size);omega
      have hs3:¬9223372036854775807<T.size+(7+U2.size):=by omega
      have Xz:=zH (HB2.out.alloc HB2.out.size (.cells #[.string ⟨#[32,87,72,69,82,69,32]⟩,.string ⟨#[32,65,78,68,32]⟩] 9));have kk:=Bk.new w2 9 #[.string ⟨#[32,87,72,69,82,69,32]⟩,.string ⟨#[32,65,78,68,32]⟩];have kk0:=kk.cell 0;clear kk HR2 HZ
      by_cases hmd:dd<cd
      ·have NY:(dd:Int)<(cd:Int):=by omega
       have hmm:max dd cd=cd:=by omega
       have hm2:=mV.out;rw[hmm]at hm2;have Hg:=zH hm2;clear hmd hmm hm2 mV hmx;go_wp2
       go_roundw
       case rel=>exact⟨0+1,_,cd,by omega,rfl,by go_num,by go_num,by omega,UM,Hg,Xz⟩
       case measure=>simp[intOf];omega
      ·have NY:¬(dd:Int)<(cd:Int):=by omega
       have hmm:max dd cd=dd:=by omega
       have hm2:=mV.out;rw[hmm]at hm2;have Hg:=zH hm2;clear hmd hmm hm2 mV hmx;go_wp2
       go_roundw
       case rel=>exact⟨0+1,_,dd,by omega,rfl,by go_num,by go_num,by omega,UM,Hg,Xz⟩
       case measure=>simp[intOf];omega
     ·by_cases hj1:j=1
      ·as_aux_lemma=>
       subst hj1
       have UM:Hid ((T++((⟨#[32,65,78,68,32]⟩:ByteArray)++U2)).size+xY n2 (1+1) (q.cond.drop (1+1))=NC):=zH (by
        rw[aj,aj,HZ.out];have:=HR2.out;rw[if_neg (by decide)]at this
        show T.size+(5+cl)+_=NC
        omega)
       have hs1:¬9223372036854775807<5+U2.size:=by omega
       have hs2:¬9223372036854775807<T.size+((⟨#[32,65,78,68,32]⟩:ByteArray)++U2).size:=by rw[aj];show¬9223372036854775807<T.size+(5+U2.size);omega
       have hs3:¬9223372036854775807<T.size+(5+U2.size):=by omega
       have Xz:=zH (HB2.out.alloc HB2.out.size (.cells #[.string ⟨#[32,87,72,69,82,69,32]⟩,.string ⟨#[32,65,78,68,32]⟩] 9));have kk:=Bk.new w2 9 #[.string ⟨#[32,87,72,69,82,69,32]⟩,.string ⟨#[32,65,78,68,32]⟩];have kk1:=kk.cell 1;clear kk HR2 HZ
       by_cases hmd:dd<cd
       ·have NY:(dd:Int)<(cd:Int):=by omega
        have hmm:max dd cd=cd:=by omega
        have hm2:=mV.out;rw[hmm]at hm2;have Hg:=zH hm2;clear hmd hmm hm2 mV hmx;go_wp2
        go_roundw
        case rel=>exact⟨1+1,_,cd,by omega,rfl,by go_num,by go_num,by omega,UM,Hg,Xz⟩
        case measure=>simp[intOf];omega
       ·have NY:¬(dd:Int)<(cd:Int):=by omega
        have hmm:max dd cd=dd:=by omega
        have hm2:=mV.out;rw[hmm]at hm2;have Hg:=zH hm2;clear hmd hmm hm2 mV hmx;go_wp2
        go_roundw
        case rel=>exact⟨1+1,_,dd,by omega,rfl,by go_num,by go_num,by omega,UM,Hg,Xz⟩
        case measure=>simp[intOf];omega
      ·as_aux_lemma=>
       have hjI:¬(j:Int)<=1:=by omega
       have UM:Hid ((T++((⟨#[32,65,78,68,32]⟩:ByteArray)++U2)).size+xY n2 (j+1) (q.cond.drop (j+1))=NC):=zH (by
        rw[aj,aj,HZ.out];have:=HR2.out;rw[if_neg hj0]at this
        show T.size+(5+cl)+_=NC
        omega)
       have hs1:¬9223372036854775807<5+U2.size:=by omega
       have hs2:¬9223372036854775807<T.size+((⟨#[32,65,78,68,32]⟩:ByteArray)++U2).size:=by rw[aj];show¬9223372036854775807<T.size+(5+U2.size);omega
       have hs3:¬9223372036854775807<T.size+(5+U2.size):=by omega
       have Xz:=zH (HB2.out.alloc HB2.out.size (.cells #[.string ⟨#[32,87,72,69,82,69,32]⟩,.string ⟨#[32,65,78,68,32]⟩] 9));have kk:=Bk.new w2 9 #[.string ⟨#[32,87,72,69,82,69,32]⟩,.string ⟨#[32,65,78,68,32]⟩];have kk1:=kk.cell 1;clear kk HR2 HZ hj0 hj1
       by_cases hmd:dd<cd
       ·have NY:(dd:Int)<(cd:Int):=by omega
        have hmm:max dd cd=cd:=by omega
        have hm2:=mV.out;rw[hmm]at hm2;have Hg:=zH hm2;clear hmd hmm hm2 mV hmx;go_wp2
        go_roundw
        case rel=>exact⟨j+1,_,cd,by omega,rfl,by go_num,by go_num,by omega,UM,Hg,Xz⟩
        case measure=>simp[intOf];omega
       ·have NY:¬(dd:Int)<(cd:Int):=by omega
        have hmm:max dd cd=dd:=by omega
        have hm2:=mV.out;rw[hmm]at hm2;have Hg:=zH hm2;clear hmd hmm hm2 mV hmx;go_wp2
        go_roundw
        case rel=>exact⟨j+1,_,dd,by omega,rfl,by go_num,by go_num,by omega,UM,Hg,Xz⟩
        case measure=>simp[intOf];omega
    ·
     obtain rfl:j=n2:=by omega
     have hr:=HR.out;have hm:=HM.out;rw[List.drop_eq_nil_of_le (by have:=HL2.out;omega)]at hr hm;have hTN:T.size=NC:=by simpa[xY]using hr
     have hdM:dd=MX:=hm;subst hdM;have HTN:=zH hTN;have hTb:T.size<=20000:=by omega
     have hlq:OJ q=T.size+(18+zJ st+iU win)+(if q.key=[]then 0 else 14+q.key.length):=by
      unfold OJ;rw[hTN,<-HNC.out,HSN.out,<-xu.out,<-HL2.out,HSTQ.out,HWNQ.out]
     have HLQ:=zH hlq;have Xg:Iz q.cond.length 0 q.cond=dd:=by rw[<-HL2.out];exact HMX.out
     have hR:=Jm.out;rw[Xg]at hR;have HR6:=zH hR;clear hr hm hTN hlq Xg hR HR HM Jm HNC HSN xu HMX HL2 Fz Jb Zn HNQE;have kq:=HKB.out.old BV.out;have q2:=kq.cell 2;have q3:=kq.cell 3;clear kq;obtain⟨ix,hix⟩:∃ix,st=ix+1:=⟨st-1,by have:=KO.out.2.2.1.1;omega⟩
     have hix3:ix<3:=by have:=KO.out.2.2.1.2;omega
     obtain⟨G,hGx,UO⟩:∃G:ByteArray,(#[.string ⟨#[83,84,82,73,67,84]⟩,.string ⟨#[78,69,88,84]⟩,.string ⟨#[65,78,89]⟩]:Array Value)[ix]? =some (.string G)/\G.size=zJ st:=by
      rw[hix]
      match ix,hix3 with
      |0,_=>exact⟨_,rfl,rfl⟩
      |1,_=>exact⟨_,rfl,rfl⟩
      |2,_=>exact⟨_,rfl,rfl⟩
     have hG6:G.size<=6:=by
      rw[UO,hix]
      match ix,hix3 with
      |0,_|1,_|2,_=>decide
     obtain⟨D,hD⟩:∃D,bytes (Lib.itoa (win:Int))=D:=⟨_,rfl⟩
     have hDs:D.size=iU win:=by rw[<-hD];rfl
     have hwb:win<=9223372036854775807:=HWIN.out;have hD20:D.size<=20:=by rw[hDs];exact sG win hwb
     have HDC:Hid (∀W:World,Calls Try.prog 64 #[.int .i64 win] W fun e w'=>e=.returned (.string D)/\Below W.heap.size W w'):=zH fun W=>by
      have:=zy (win:Int) ⟨by omega,by omega⟩ W
      rwa [hD]at this
     have HGS:=zH UO;have Za:=zH hDs;have hsub:(st:Int)-1=(ix:Int):=by omega
     have Zd:IntKind.i64.wrap (ix:Int)=(ix:Int):=by rw[IntKind.wrap_i64];omega
     have Ze:(ix:Int)<3:=by omega
     have hs1:¬9223372036854775807<10+G.size:=by omega
     have hs2:¬9223372036854775807<((⟨#[32,83,84,82,65,84,69,71,89,32]⟩:ByteArray)++G).size+8:=by rw[aj];show¬9223372036854775807<10+G.size+8;omega
     have hs3:¬9223372036854775807<10+G.size+8:=by omega
     have hs4:¬9223372036854775807<(((⟨#[32,83,84,82,65,84,69,71,89,32]⟩:ByteArray)++G)++(⟨#[32,87,73,84,72,73,78,32]⟩:ByteArray)).size+D.size:=by rw[aj,aj];show¬9223372036854775807<10+G.size+8+D.size;omega
     have hs5:¬9223372036854775807<10+G.size+8+D.size:=by omega
     have hs6:¬9223372036854775807<T.size+((((⟨#[32,83,84,82,65,84,69,71,89,32]⟩:ByteArray)++G)++(⟨#[32,87,73,84,72,73,78,32]⟩:ByteArray))++D).size:=by rw[aj,aj,aj];show¬9223372036854775807<T.size+(10+G.size+8+D.size);omega
     have hs7:¬9223372036854775807<T.size+(10+G.size+8+D.size):=by omega
     clear hD hDs UO hix hwb hix3 HSTQ HWNQ HWIN;go_upto_region 25 with fail
     obtain⟨W,hW⟩:∃W,wp=W:=⟨_,rfl⟩
     subst hW
     refine wx (fun k => false) [.is (.string T),
       .st (fun v w=>∃g,v=.slice (some ⟨g,0,none⟩) 3 3/\Bk w g 9 #[.string {data:=#[83,84,82,73,67,84]},.string {data:=#[78,69,88,84]},.string {data:=#[65,78,89]}]) (fun _ _ _ hb ⟨g,h1,h2⟩=>⟨g,h1,h2.old hb⟩),
       .is (.pointer (some ⟨gx,2,none⟩)),
       .is (.int .i64 (st:Nat)),
       .is (.int .i64 (ix:Nat)),
       .st (fun v w=>∃g,v=.pointer (some ⟨g,ix,none⟩)/\Bk w g 9 #[.string ⟨#[83,84,82,73,67,84]⟩,.string ⟨#[78,69,88,84]⟩,.string ⟨#[65,78,89]⟩]) (fun _ _ _ hb ⟨g,h1,h2⟩=>⟨g,h1,h2.old hb⟩),
       .is (.string G),
       .is (.string ((⟨#[32,83,84,82,65,84,69,71,89,32]⟩:ByteArray)++G)),
       .is (.string (((⟨#[32,83,84,82,65,84,69,71,89,32]⟩:ByteArray)++G)++(⟨#[32,87,73,84,72,73,78,32]⟩:ByteArray))),
       .is (.pointer (some ⟨gx,3,none⟩)),
       .is (.int .i64 (win:Nat)),
       .is (.string D),
       .is (.string ((((⟨#[32,83,84,82,65,84,69,71,89,32]⟩:ByteArray)++G)++(⟨#[32,87,73,84,72,73,78,32]⟩:ByteArray))++D)),
       .is (.string (T++((((⟨#[32,83,84,82,65,84,69,71,89,32]⟩:ByteArray)++G)++(⟨#[32,87,73,84,72,73,78,32]⟩:ByteArray))++D)))] [1,4,5,6,7,8,11,12,13] (by kernel_rfl) (by kernel_rfl) (by kernel_rfl)
       (fun C=>.c (px C rfl (fun _ _=>rfl)) <|
       .c (pz [] [] (by kernel_rfl) fun qK qa wr hB qO qF hK=>?_) <|
       .c (px C rfl (fun _ _=>rfl)) <|
       .c (px C rfl (fun _ h=>bW (lJ (bc h q2)))) <|
       .c (pz [3] [] (by kernel_rfl) fun qK qa wr hB qO qF hK=>?_) <|
       .c (pz [1,4] [] (by kernel_rfl) fun qK qa wr hB qO qF hK=>?_) <|
       .c (pz [5] [] (by kernel_rfl) fun qK qa wr hB qO qF hK=>?_) <|
       .c (pz [6] [] (by kernel_rfl) fun qK qa wr hB qO qF hK=>?_) <|
       .c (pz [7] [] (by kernel_rfl) fun qK qa wr hB qO qF hK=>?_) <|
       .c (px C rfl (fun _ _=>rfl)) <|
       .c (px C rfl (fun _ h=>bW (ld2 (bc h q3)))) <|
       .c (pz [10] [] (by kernel_rfl) fun qK qa wr hB qO qF hK=>?_) <|
       .c (pz [8,11] [] (by kernel_rfl) fun qK qa wr hB qO qF hK=>?_) <|
       .c (pz [0,12] [] (by kernel_rfl) fun qK qa wr hB qO qF hK=>?_) <| .nil) ?_
     ·clear qO qF;go_simp;exact hK _ _ (zR.alloc zL _) ⟨_,rfl,Bk.new _ _ _⟩
     ·have e92:=ay qF.1 rfl rfl;clear qO qF;go_simp;exact hK _ _ zR (by first|rfl|(show(_:Value)=_;simp;omega))
     ·obtain⟨u90,e90,r1⟩:=qF.1;obtain⟨g90,h90,k90⟩:=(show∃g,u90=.slice (some ⟨g,0,none⟩) 3 3/\Bk wr g 9 #[.string {data:=#[83,84,82,73,67,84]},.string {data:=#[78,69,88,84]},.string {data:=#[65,78,89]}]from r1)
      subst h90;have e90:qa.tmps[90]? =some (.slice (some ⟨g90,0,none⟩) 3 3):=e90;have e93:=ay qF.2.1 rfl rfl;clear qO qF;go_simp;exact hK _ _ zR ⟨g90,by first|rfl|simp,k90⟩
     ·obtain⟨u94,e94,r5⟩:=qF.1;obtain⟨g94,h94,k94⟩:=(show∃g,u94=.pointer (some ⟨g,ix,none⟩)/\Bk wr g 9 #[.string ⟨#[83,84,82,73,67,84]⟩,.string ⟨#[78,69,88,84]⟩,.string ⟨#[65,78,89]⟩]from r5)
      subst h94;have e94:qa.tmps[94]? =some (.pointer (some ⟨g94,ix,none⟩)):=e94;clear qO qF;have hcg:wr.cell? ⟨g94,ix,none⟩=some (.string G):=(k94.cell ix).trans hGx;go_simp;exact hK _ _ zR rfl
     ·have e95:=ay qF.1 rfl rfl;clear qO qF;go_simp;exact hK _ _ zR rfl
     ·have e96:=ay qF.1 rfl rfl;clear qO qF;go_simp;exact hK _ _ zR rfl
     ·have e99:=ay qF.1 rfl rfl;clear qO qF;go_simp
      go_at_call 64
      refine(HDC.out wr).mono ?_;rintro r w9 ⟨rfl,dO⟩;exact hK _ _ dO rfl
     ·have e97:=ay qF.1 rfl rfl;have e100:=ay qF.2.1 rfl rfl;clear qO qF;go_simp;exact hK _ _ zR rfl
     ·have e89:=ay qF.1 rfl rfl;have e101:=ay qF.2.1 rfl rfl;clear qO qF;go_simp;exact hK _ _ zR rfl
     intro qx wr hB hR hS;clear hR hS;simp only[bJ,List.take_succ_cons,List.take_zero,List.drop_succ_cons,List.drop_zero,List.toList_toArray,List.length_cons,List.length_nil,Act.put,List.setIfInBounds_toArray,List.set_cons_zero,List.set_cons_succ];have yH:=zH (BV.out.trans (hB.mono BV.out.size));have q4:=(HKB.out.old yH.out).cell 4;clear q2 q3 hB HDC BV hGx hsub Zd Ze hs1 hs2 hs3 hs4 hs5 hs6;go_upto_region 26 with fail
     obtain⟨S9,hS9⟩:∃z,(T++((((⟨#[32,83,84,82,65,84,69,71,89,32]⟩:ByteArray)++G)++(⟨#[32,87,73,84,72,73,78,32]⟩:ByteArray))++D))=z:=⟨_,rfl⟩
     have Zt:S9.size=T.size+(18+zJ st+iU win):=by
      rw[<-hS9,aj,aj,aj,aj,<-HGS.out,<-Za.out]
      show T.size+(10+G.size+8+D.size)=_
      omega
     rw[hS9];have HS9:=zH Zt;have hS9b:S9.size<=20100:=by rw[Zt,<-HGS.out,<-Za.out];omega
     have hK24:K.size<=24:=by
      rw[<-HKK.out,bD];exact KO.out.2.2.2.2.1
     have hkl:q.key=K.toList:=by rw[<-HKK.out,aF]
     have RF:=zH hkl;clear hS9 Zt HGS Za hG6 hD20 hs7 hkl;go_upto_if 105 with fail
     generalize hke:K.toList.isEmpty=ke;have HKE:=zH hke;clear hke
     go_cut[4] (fun v wx=>∃S2:ByteArray,v=.string S2/\Hid (S2.size=OJ q)/\wr=wx)
     case first=>
      as_aux_lemma=>
      cases ke
      rotate_left
      ·have hk0:K.toList=[]:=by have:=HKE.out;simpa using this
       have HZ:Hid (S9.size=OJ q):=zH (by
        rw[HLQ.out,RF.out,hk0,if_pos rfl,HS9.out]
        rfl)
       clear hk0;go_wp2_with fail
       go_meet
       exact⟨_,rfl,HZ,rfl⟩
      ·have hk0:¬K.toList=[]:=by intro h;have:=HKE.out;rw[h]at this;cases this
       have hs1:¬9223372036854775807<14+K.size:=by omega
       have hs2:¬9223372036854775807<S9.size+((⟨#[32,80,65,82,84,73,84,73,79,78,32,66,89,32]⟩:ByteArray)++K).size:=by rw[aj];show¬9223372036854775807<S9.size+(14+K.size);omega
       have hs3:¬9223372036854775807<S9.size+(14+K.size):=by omega
       have HZ:Hid ((S9++((⟨#[32,80,65,82,84,73,84,73,79,78,32,66,89,32]⟩:ByteArray)++K)).size=OJ q):=zH (by
        rw[HLQ.out,RF.out,if_neg hk0,aj,aj,HS9.out,bC]
        rfl)
       clear hk0;go_wp2_with fail
       go_meet
       exact⟨_,rfl,HZ,rfl⟩
     case rest=>
     obtain⟨S2,rfl,HZ,hwc⟩:=hcut;subst hwc;have HF:=zH (HB0.out.trans (yH.out.mono HB0.out.size));have hR:=HR6.out;rw[<-HZ.out]at hR;have HR7:=zH hR;clear q4 HR6 hR HLQ RF HS9 hS9b hK24 HZ yH KO
     by_cases h40:4000<S2.size
     ·as_aux_lemma=>
      have hI:(4000:Int)<(S2.size:Int):=by omega
      have hR:=HR7.out;rw[if_pos h40]at hR;subst hR;clear h40 HR7;go_wp2
      go_ret2
      first|exact⟨_,rfl,HF.out⟩|exact⟨⟨_,rfl⟩,HF.out⟩|exact⟨⟨_,rfl⟩,by rw[<-CO.out];exact HF.out⟩|exact⟨_,rfl,by rw[<-CO.out];exact HF.out⟩|exact HF.out|(rw[<-CO.out];exact HF.out)|(rw[CO.out];exact HF.out)
     ·have hI:¬(4000:Int)<(S2.size:Int):=by omega
      have hR:=HR7.out;rw[if_neg h40]at hR;have HR8:=zH hR;clear h40 HR7 hR
      by_cases h30:30<dd
      ·as_aux_lemma=>
       have hI2:(30:Int)<(dd:Int):=by omega
       have hR:=HR8.out;rw[if_pos h30]at hR;subst hR;clear h30 HR8;go_wp2
       go_ret2
       first|exact⟨_,rfl,HF.out⟩|exact⟨⟨_,rfl⟩,HF.out⟩|exact⟨⟨_,rfl⟩,by rw[<-CO.out];exact HF.out⟩|exact⟨_,rfl,by rw[<-CO.out];exact HF.out⟩|exact HF.out|(rw[<-CO.out];exact HF.out)|(rw[CO.out];exact HF.out)
      ·as_aux_lemma=>
       have hI2:¬(30:Int)<(dd:Int):=by omega
       have hR:=HR8.out;rw[if_neg h30]at hR;subst hR;clear h30 HR8;go_wp2
       go_ret2
       first|exact⟨_,rfl,HF.out⟩|exact⟨⟨_,rfl⟩,HF.out⟩|exact⟨⟨_,rfl⟩,by rw[<-CO.out];exact HF.out⟩|exact⟨_,rfl,by rw[<-CO.out];exact HF.out⟩|exact HF.out|(rw[<-CO.out];exact HF.out)|(rw[CO.out];exact HF.out)
end Go.Proofs.Ytbjnhllkdilpfaa
