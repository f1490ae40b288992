/- Part 36 of the proof. No conditions. -/
import Derived.Test.YtbjnhllkdilpfaaZb35
import Derived.Test.YtbjnhllkdilpfaaZb27
import Derived.Test.YtbjnhllkdilpfaaZb32
namespace Go.Proofs.Ytbjnhllkdilpfaa
open Go.RowKit
set_option linter.unusedSimpArgs false
set_option linter.unusedVariables false
set_option maxHeartbeats 16000000
set_option maxRecDepth 100000
def qh (x:bu):Bool:=((decide (1<=x.form)&&decide (x.form<=3))&&nameB x.type)&&nameB x.name
def F8 (l:List bu):Bool:=decide (0<l.length)&&l.all qh
def xR (e:au):Bool:=rO e !=13&&dO e
def DV (q:bU):Bool:=(((decide (0<q.branches.length)&&decide (1<=q.aS))&&decide (q.aS<=3))&&decide (q.window<=1152921504606846976))&&(q.key.isEmpty||nameB q.key)
def lT (q:bU):Bool:=(DV q&&q.branches.all F8)&&q.cond.all xR
theorem oz.get {B:Nat} {w:World}:∀{vs:List Value} {ls:List (List bu)},oz B w vs ls->∀k (hk:k<ls.length),∃A c,vs[k]? =some (.slice A ls[k].length c)/\Rd w w.heap.size A (ls[k].flatMap bu.cells)
 |[],[],_,k,hk=>absurd hk (by simp)
 |v::vs,l::ls,h,0,hk=>by
  obtain⟨A,c,rfl,_⟩:=bF h.1;exact⟨A,c,rfl,bP h.1⟩
 |v::vs,l::ls,h,k+1,hk=>oz.get h.2 k (by simpa using hk)
 |[],_::_,h,_,_=>h.elim
 |_::_,[],h,_,_=>h.elim
theorem oz.len {B:Nat} {w:World}:∀{vs:List Value} {ls:List (List bu)},oz B w vs ls->vs.length=ls.length
 |[],[],_=>rfl
 |v::vs,l::ls,h=>by simp[oz.len h.2]
 |[],_::_,h=>h.elim
 |_::_,[],h=>h.elim
theorem jK.get {B : Nat} {w : World} {A : Option Addr} {n c : Nat} {dC : List (List bu)} (h : jK B w (.slice A n c) dC) (k : Nat) (hk : k < dC.length) :
  ∃g o A' c',A=some ⟨g,o,none⟩/\g<w.heap.size/\w.cell? ⟨g,o+k,none⟩=some (.slice A' dC[k].length c')/\Rd w w.heap.size A' (dC[k].flatMap bu.cells):=by
 obtain⟨vs,h1,h2⟩:=h;obtain⟨A0,c0,hv,_⟩:=bF h1;injection hv with hA hn hc
 subst hA;have hrd:=bP (by rw[hn]at h1;exact h1);obtain⟨A',c',hg,hr⟩:=h2.get k hk;have hlv:=h2.len;obtain⟨g,o,hA,hlt,hcc⟩:=hrd.at_ (j:=k) (by rw[hlv];exact hk);exact⟨g,o,A',c',hA,hlt,hcc k _ hg,hr⟩
theorem wZ.get {B : Nat} {w : World} {A : Option Addr} {n c : Nat} {es : List au} (h : wZ B w (.slice A n c) es) (k : Nat) (hk : k < es.length) :
  ∃g o y0 y1 y2 y3 y4 y5 y6,A=some ⟨g,o,none⟩/\g<w.heap.size/\kN (fun g=>B<=g) w es[k] [y0,y1,y2,y3,y4,y5,y6]/\∀(j:Nat) (u:Value),[y0,y1,y2,y3,y4,y5,y6][j]? =some u->w.cell? ⟨g,o+(k*7+j),none⟩=some u:=by
 obtain⟨css,h1,h2⟩:=h;obtain⟨A0,c0,hv,_⟩:=bF h1;injection hv with hA hn hc
 subst hA;have hrd:=bP (by rw[hn]at h1;exact h1);obtain⟨y0,y1,y2,y3,y4,y5,y6,hok,hys⟩:=h2.get k hk;obtain⟨g,o,hA,hlt,hcc⟩:=hrd.at_ (j:=k*7) (by have:=(List.getElem?_eq_some_iff.1 (hys 0 y0 rfl)).1;simpa using this);exact⟨g,o,y0,y1,y2,y3,y4,y5,y6,hA,hlt,hok,fun j u hu=>hcc _ u (hys j u hu)⟩
theorem QV.old {B:Nat} {w w':World} {q:bU} {cs:List Value} (h:QV B w q cs) (hb:Below w.heap.size w w'):QV B w' q cs:=by
 obtain⟨bv,wv,h1,h2,h3⟩:=h;exact⟨bv,wv,h1,h2.old hb,h3.old hb⟩
theorem wZ.len {B:Nat} {w:World} {A:Option Addr} {n c:Nat} {es:List au} (h:wZ B w (.slice A n c) es):n=es.length:=by
 obtain⟨css,h1,h2⟩:=h;obtain⟨A0,c0,hv,_⟩:=bF h1;injection hv with hA hn hc
 rw[hn,h2.len.1]
theorem jK.len {B:Nat} {w:World} {A:Option Addr} {n c:Nat} {dC:List (List bu)} (h:jK B w (.slice A n c) dC):n=dC.length:=by
 obtain⟨vs,h1,h2⟩:=h;obtain⟨A0,c0,hv,_⟩:=bF h1;injection hv with hA hn hc
theorem zT {α:Type} (f:α->Bool) (l:List α) (k:Nat) (h:k<l.length):(l.drop k).all f=(f l[k]&&(l.drop (k+1)).all f):=by rw[List.drop_eq_getElem_cons h,List.all_cons]
theorem II (B : Nat) (w : World) (q : bU) (A1 A2 : Option Addr) (n1 n2 c1 c2 : Nat) (hbr : jK B w (.slice A1 n1 c1) q.branches) (hwh : wZ B w (.slice A2 n2 c2) q.cond) (hbd : ∀ e ∈ q.cond, jQ e) (hn : n1 ≤ 1000 ∧ n2 ≤ 100000) (hst : q.aS ≤ 1000) (hwin : q.window ≤ 9223372036854775807) (hit : ∀ l ∈ q.branches, l.length ≤ 1000) :
  Calls Try.prog 61 #[.agg (q.cells (.slice A1 n1 c1) (.slice A2 n2 c2)).toArray] w fun r w'=>r=.returned (.bool (lT q))/\Below w.heap.size w w':=by
 have hl1:=hbr.len;have hl2:=hwh.len;have KY:=zH hbr;have WT:=zH hwh;have vJ:=zH hbd;have AQ:=zH hl1;have HL2:=zH hl2;have HIT:=zH hit;have rJ:Hid (∀(S:ByteArray) (W:World),Calls Try.prog 77 #[.string S] W fun e w'=>e=.returned (.bool (nameB S.toList))/\Below W.heap.size W w'):=zH fun S W=>nz S W
 obtain⟨hd,hhd⟩:∃z,DV q=z:=⟨_,rfl⟩
 obtain⟨RES,hres⟩:∃R,lT q=R:=⟨_,rfl⟩
 rw[hres];unfold lT at hres;rw[hhd]at hres;unfold DV at hhd;obtain⟨dC,es,st,win,key,ka⟩:=q;simp only at KY WT vJ AQ HL2 HIT hhd hres hst hwin;unfold bU.cells iE;obtain⟨K,hK⟩:∃K,bytes key=K:=⟨_,rfl⟩
 have hkl:key=K.toList:=by rw[<-hK,aJ]
 rw[hkl]at hhd;have HHD:=zH hhd;have aK:=zH hres;have hwI:decide ((win:Int)<=1152921504606846976)=decide (win<=1152921504606846976):=by rw[decide_eq_decide];omega
 have hw0:decide ((0:Int)<=(win:Int))=true:=by rw[decide_eq_true_eq];omega
 obtain⟨wb,hwb⟩:∃z,decide (win<=1152921504606846976)=z:=⟨_,rfl⟩
 have Sj:=HHD.out;rw[hwb]at hwI Sj;rw[<-hl1]at Sj;have HHD2:=zH Sj;obtain⟨hn1,hn2⟩:=hn;clear hbr hwh hbd hl1 hl2 hit hhd hres hkl hwb HHD hwin Sj;simp only[hK];clear hK
 go_enter Try.func61,Try.ntmps61
 have kb:=Bk.new w 80 #[.slice A1 n1 c1,.slice A2 n2 c2,.int .i64 st,.int .i64 win,.string K,.int .i64 ka];have HB0:=zH ((Below.refl w.heap.size w).alloc zL (.cells #[.slice A1 n1 c1,.slice A2 n2 c2,.int .i64 st,.int .i64 win,.string K,.int .i64 ka] 80));go_upto_region 1 with fail
 generalize w.alloc (.cells #[.slice A1 n1 c1,.slice A2 n2 c2,.int .i64 st,.int .i64 win,.string K,.int .i64 ka] 80)=w0 at *;generalize eP:w.heap.size=bx at *;have jl:=zH eP;have HKB:=zH kb;have hbx:=kb.lt;clear kb eP;have KZ:Hid (Below w.heap.size w w0):=zH (by first|exact HB0.out|(rw[jl.out];exact HB0.out))
 go_cut[3] (fun v wx=>v=.bool hd/\Hid (Below w0.heap.size w0 wx))
 case first=>
  as_aux_lemma=>
  have hh:=HHD2.out;have q0:=HKB.out.cell 0;have q2:=HKB.out.cell 2;have q3:=HKB.out.cell 3;have q4:=HKB.out.cell 4
  by_cases h1:0<n1
  case neg=>
   have hI:¬(0:Int)<(n1:Int):=by omega
   have hst:hd=false:=by rw[<-hh,decide_eq_false h1];rfl
   subst hst;clear h1 hh hwI hw0;go_wp2_with fail
   go_meet
   exact⟨rfl,zH zR⟩
  case pos=>
  have hI:(0:Int)<(n1:Int):=by omega
  rw[decide_eq_true h1]at hh
  by_cases h2:1<=st
  case neg=>
   have hI2:¬(1:Int)<=(st:Int):=by omega
   have hst:hd=false:=by rw[<-hh,decide_eq_false h2];rfl
   subst hst;clear h1 h2 hh hwI hw0;go_wp2_with fail
   go_meet
   exact⟨rfl,zH zR⟩
  case pos=>
  have hI2:(1:Int)<=(st:Int):=by omega
  rw[decide_eq_true h2]at hh
  by_cases h3:st<=3
  case neg=>
   have hI3:¬(st:Int)<=(3:Int):=by omega
   have hst:hd=false:=by rw[<-hh,decide_eq_false h3];rfl
   subst hst;clear h1 h2 h3 hh hwI hw0;go_wp2_with fail
   go_meet
   exact⟨rfl,zH zR⟩
  case pos=>
  have hI3:(st:Int)<=(3:Int):=by omega
  rw[decide_eq_true h3]at hh;cases wb
  case false=>
   have hst:hd=false:=by rw[<-hh];rfl
   subst hst;clear h1 h2 h3 hh;go_wp2_with fail
   go_meet
   exact⟨rfl,zH zR⟩
  case true=>
  by_cases hk:K.toList=[]
  case pos=>
   have hkE:K.toList.isEmpty=true:=by rw[hk];rfl
   have hst:hd=true:=by rw[<-hh,hk];rfl
   subst hst;clear h1 h2 h3 hh;go_wp2_with fail
   go_meet
   exact⟨rfl,zH zR⟩
  case neg=>
   have hkE:K.toList.isEmpty=false:=by rw[Bool.eq_false_iff];intro h;exact hk (by simpa using h)
   have hst:hd=nameB K.toList:=by rw[<-hh,hkE];rfl
   subst hst;have HNK:=zH (rJ.out K w0);clear h1 h2 h3 hh;go_wp2_with fail
   refine HNK.out.mono ?_;rintro r w2 ⟨rfl,hb2⟩;have HB2:=zH hb2;clear hb2;go_wp2_with fail
   go_meet
   exact⟨rfl,HB2⟩
 case rest=>
 obtain⟨rfl,HB⟩:=hcut;have HA:Hid (((hd&&(dC.drop 0).all F8)&&es.all xR)=RES):=zH (by rw[List.drop_zero];exact aK.out);clear aK HHD2 hwI hw0;have q0:=(HKB.out.old HB.out).cell 0;go_wp2_with fail
 clear q0
 go_loopw[3,46] (fun o i wr=>∃(k:Nat) (z:Bool),k<=n1/\o=.bool z/\i=.int .i64 k/\Hid (((z&&(dC.drop k).all F8)&&es.all xR)=RES)/\Hid (Below w0.heap.size w0 wr)) (fun _ i _=>n1-(intOf i).toNat)
 case atStart=>exact⟨0,hd,Nat.zero_le _,rfl,rfl,HA,HB⟩
 case round=>
  clear HA HB;obtain⟨k,z,hk,rfl,rfl,HR,HB⟩:=hrel;obtain⟨wo,rfl⟩:∃wo:World,wo=wr:=⟨_,rfl⟩
  by_cases hlt:k<n1
  ·as_aux_lemma=>
   have hkl:k<dC.length:=by have:=AQ.out;omega
   have hbw:Below w.heap.size w wo:=KZ.out.trans (HB.out.mono KZ.out.size);obtain⟨g,o,A',c',hA,hg,hc,hrd⟩:=(KY.out.old hbw).get k hkl;subst hA;have hll:=HIT.out dC[k] (List.getElem_mem hkl);have hr:=HR.out;rw[zT _ _ _ hkl]at hr;obtain⟨l,hl⟩:∃l,dC[k]=l:=⟨_,rfl⟩
   rw[hl]at hc hrd hll hr;obtain⟨n,hn⟩:∃n,l.length=n:=⟨_,rfl⟩
   rw[hn]at hc hll;have HN:=zH hn;have vS:=zH hrd;have HR2:=zH hr;obtain⟨tl,htl⟩:∃z,((dC.drop (k+1)).all F8)=z:=⟨_,rfl⟩
   have hr:=HR2.out;rw[htl]at hr;have HTL:=zH htl;have HR3:=zH hr;obtain⟨z2,hz2⟩:∃y,(z&&decide (0<n))=y:=⟨_,rfl⟩
   have HZ2:=zH hz2;clear hr hrd hl hn HR HR2 htl hz2 hbw hg;go_upto_region 5 with fail
   clear hc
   go_cut[3] (fun v wx=>v=.bool z2/\wo=wx)
   case first=>
    as_aux_lemma=>
    have hz:=HZ2.out;cases z
    case false=>
     have hst:z2=false:=by rw[<-hz];rfl
     subst hst;clear hz;go_wp2_with fail
     go_meet
     exact⟨rfl,rfl⟩
    case true=>
     by_cases h0:0<n
     ·have hI:(0:Int)<(n:Int):=by omega
      have hst:z2=true:=by rw[<-hz,decide_eq_true h0];rfl
      have hD:decide (0<n)=true:=decide_eq_true h0;subst hst;clear hz h0;go_wp2_with fail
      go_meet
      exact⟨rfl,rfl⟩
     ·have hI:¬(0:Int)<(n:Int):=by omega
      have hst:z2=false:=by rw[<-hz,decide_eq_false h0];rfl
      have hD:decide (0<n)=false:=decide_eq_false h0;subst hst;clear hz h0;go_wp2_with fail
      go_meet
      exact⟨rfl,rfl⟩
   case rest=>
   obtain⟨rfl,hwc⟩:=hcut;subst hwc
   have hr4:(((z2&&(l.drop 0).all qh)&&tl)&&es.all xR)=RES:=by
    rw[<-HR3.out,<-HZ2.out,List.drop_zero];unfold F8;rw[HN.out];cases z<;>cases decide (0<n)<;>cases l.all qh<;>cases tl<;>rfl
   have HR4:=zH hr4;have X6:=HB;clear HB hr4 HR3 HZ2;go_wp2_with fail
   go_loopw[3,58] (fun o i wr=>∃(j:Nat) (y:Bool),j<=n/\o=.bool y/\i=.int .i64 j/\Hid ((((y&&(l.drop j).all qh)&&tl)&&es.all xR)=RES)/\Hid (Below wo.heap.size wo wr)) (fun _ i _=>n-(intOf i).toNat)
   case atStart=>exact⟨0,z2,Nat.zero_le _,rfl,rfl,HR4,zH zR⟩
   case round=>
    clear HR4;obtain⟨j,y,hj,rfl,rfl,Sl,AB⟩:=hrel;obtain⟨wp,rfl⟩:∃wp:World,wp=wr:=⟨_,rfl⟩
    by_cases hlj:j<n
    ·as_aux_lemma=>
     have hjl:j<l.length:=by have:=HN.out;omega
     obtain⟨gi,oi,rfl,hgi,hci⟩:=vS.out.elem (n:=4) zS (by omega) hjl;have hr:=Sl.out;rw[zT _ _ _ hjl]at hr;obtain⟨⟨f,ty,nm,ps⟩,hx⟩:∃z,l[j]=z:=⟨_,rfl⟩
     rw[hx]at hci hr;have hcc:∀(q:Nat) (u:Value),(bu.cells ⟨f,ty,nm,ps⟩)[q]? =some u->wp.cell? ⟨gi,oi+j*4+q,none⟩=some u:=fun q u h=>(aU AB.out gi _ hgi).trans (hci q u h)
     obtain⟨T,hT⟩:∃T,bytes ty=T:=⟨_,rfl⟩
     obtain⟨M,hM⟩:∃M,bytes nm=M:=⟨_,rfl⟩
     have r0:wp.cell? ⟨gi,oi+j*4,none⟩=some (.int .i64 f):=hcc 0 _ rfl;have r1:wp.cell? ⟨gi,oi+j*4+1,none⟩=some (.string T):=(hcc 1 _ rfl).trans (by rw[hT]);have r2:wp.cell? ⟨gi,oi+j*4+2,none⟩=some (.string M):=(hcc 2 _ rfl).trans (by rw[hM]);have r3:wp.cell? ⟨gi,oi+j*4+3,none⟩=some (.int .i64 ps):=hcc 3 _ rfl
     have hok:qh ⟨f,ty,nm,ps⟩=(((decide (1<=f)&&decide (f<=3))&&nameB T.toList)&&nameB M.toList):=by
      unfold qh;rw[<-hT,<-hM,aJ,aJ]
     rw[hok]at hr;have HRK:=zH hr;clear hcc hci hgi hx hr hT hM hok Sl;go_upto_region 9 with fail
     have kb:=Bk.new wp 126 #[.int .i64 f,.string T,.string M,.int .i64 ps];have HB2:=zH (AB.out.alloc AB.out.size (.cells #[.int .i64 f,.string T,.string M,.int .i64 ps] 126));clear r0 r1 r2 r3 AB;generalize wp.alloc (.cells #[.int .i64 f,.string T,.string M,.int .i64 ps] 126)=W5 at *;generalize wp.heap.size=gx at *;have HKX:=zH kb;clear kb;obtain⟨y2,hy2⟩:∃z,(y&&(((decide (1<=f)&&decide (f<=3))&&nameB T.toList)&&nameB M.toList))=z:=⟨_,rfl⟩
     have HY2:=zH hy2;clear hy2
     have Vu:(((y2&&(l.drop (j+1)).all qh)&&tl)&&es.all xR)=RES:=by
      rw[<-HRK.out,<-HY2.out];cases y<;>simp[Bool.and_assoc]
     have Me:=zH Vu;clear Vu HRK;have hy:=HY2.out;have q0:=HKX.out.cell 0;have q1:=HKX.out.cell 1;cases y
     case false=>
      have hst:y2=false:=by rw[<-hy];rfl
      subst hst;clear hy;go_wp2
      go_roundw
      case rel=>exact⟨j+1,_,by omega,rfl,by go_num,Me,HB2⟩
      case measure=>simp[intOf];omega
     case true=>
     by_cases h1:1<=f
     case neg=>
      have hI:¬(1:Int)<=(f:Int):=by omega
      have hst:y2=false:=by rw[<-hy,decide_eq_false h1];rfl
      subst hst;clear hy h1;go_wp2
      go_roundw
      case rel=>exact⟨j+1,_,by omega,rfl,by go_num,Me,HB2⟩
      case measure=>simp[intOf];omega
     case pos=>
     have hI:(1:Int)<=(f:Int):=by omega
     by_cases h3:f<=3
     case neg=>
      have hI3:¬(f:Int)<=(3:Int):=by omega
      have hst:y2=false:=by rw[<-hy,decide_eq_false h3,Bool.and_false];rfl
      subst hst;clear hy h1 h3;go_wp2
      go_roundw
      case rel=>exact⟨j+1,_,by omega,rfl,by go_num,Me,HB2⟩
      case measure=>simp[intOf];omega
     case pos=>
     have hI3:(f:Int)<=(3:Int):=by omega
     have hst:y2=(nameB T.toList&&nameB M.toList):=by rw[<-hy,decide_eq_true h1,decide_eq_true h3];rfl
     obtain⟨t1,ht1⟩:∃z,nameB T.toList=z:=⟨_,rfl⟩
     obtain⟨t2,ht2⟩:∃z,nameB M.toList=z:=⟨_,rfl⟩
     have xJ:=zH (rJ.out T W5);rw[ht1]at xJ hst;rw[ht2]at hst
     have QR:Hid (∀W,Calls Try.prog 77 #[.string M] W fun e w'=>e=.returned (.bool t2)/\Below W.heap.size W w'):=zH fun W=>by
      have:=rJ.out M W
      rwa [ht2]at this
     have HST:=zH hst;clear hy h1 h3 hst ht1 ht2;go_wp2_with fail
     refine xJ.out.mono ?_;rintro r w6 ⟨rfl,hb6⟩;have WU:=zH hb6;have q2:=(HKX.out.old hb6).cell 2;clear hb6 xJ;cases t1
     case false=>
      have hs:y2=false:=HST.out;subst hs;clear HST;go_wp2
      go_roundw
      case rel=>exact⟨j+1,_,by omega,rfl,by go_num,Me,zH (HB2.out.trans (WU.out.mono HB2.out.size))⟩
      case measure=>simp[intOf];omega
     case true=>
      have hs:y2=t2:=HST.out;subst hs;clear HST;go_wp2_with fail
      refine(QR.out _).mono ?_;rintro r w7 ⟨rfl,hb7⟩;have HB7:=zH (WU.out.trans (hb7.mono WU.out.size));clear hb7;go_wp2
      go_roundw
      case rel=>exact⟨j+1,_,by omega,rfl,by go_num,Me,zH (HB2.out.trans (HB7.out.mono HB2.out.size))⟩
      case measure=>simp[intOf];omega
    ·as_aux_lemma=>
     obtain rfl:j=n:=by omega
     have hr:=Sl.out;rw[List.drop_eq_nil_of_le (by rw[HN.out];exact Nat.le_refl _)]at hr
     have hr6:((y&&(dC.drop (k+1)).all F8)&&es.all xR)=RES:=by
      rw[<-hr,HTL.out];cases y<;>rfl
     have HR6:=zH hr6;have WU:=zH (X6.out.trans (AB.out.mono X6.out.size));clear hr hr6 Sl;go_wp2
     go_roundw
     case rel=>exact⟨k+1,y,by omega,rfl,by go_num,HR6,WU⟩
     case measure=>simp[intOf];omega
  ·as_aux_lemma=>
   have hr:=HR.out;rw[List.drop_eq_nil_of_le (by have:=AQ.out;omega)]at hr
   have hr2:(z&&(es.drop 0).all xR)=RES:=by
    rw[<-hr,List.drop_zero];cases z<;>rfl
   have HR2:=zH hr2;have q1:=(HKB.out.old HB.out).cell 1;clear hr hr2 HR KY AQ HIT rJ;go_wp2_with fail
   clear q1
   go_loopw[3,88] (fun o i wr=>∃(j:Nat) (y:Bool),j<=n2/\o=.bool y/\i=.int .i64 j/\Hid ((y&&(es.drop j).all xR)=RES)/\Hid (Below wo.heap.size wo wr)) (fun _ i _=>n2-(intOf i).toNat)
   case atStart=>exact⟨0,z,Nat.zero_le _,rfl,rfl,HR2,zH zR⟩
   case round=>
    clear HR2;obtain⟨j,y,hj,rfl,rfl,Sl,AB⟩:=hrel;obtain⟨wp,rfl⟩:∃wp:World,wp=wr:=⟨_,rfl⟩
    have HBP:=zH (HB.out.trans (AB.out.mono HB.out.size))
    by_cases hlj:j<n2
    ·as_aux_lemma=>
     have hjl:j<es.length:=by have:=HL2.out;omega
     have hbw:Below w.heap.size w wp:=KZ.out.trans (HBP.out.mono KZ.out.size);obtain⟨g,o,y0,y1,y2,y3,y4,y5,y6,hA,hg,hok,hc⟩:=(WT.out.old hbw).get j hjl;subst hA;obtain⟨d1,d2,d3,d4,d5,d6,hcs⟩:=hok.op;injection hcs with h0 hcs
     injection hcs with h1 hcs
     injection hcs with h2 hcs
     injection hcs with h3 hcs
     injection hcs with h4 hcs
     injection hcs with h5 hcs
     injection hcs with h6 hcs
     subst h0 h1 h2 h3 h4 h5 h6;have hr:=Sl.out;rw[zT _ _ _ hjl]at hr;have hbe:=vJ.out es[j] (List.getElem_mem hjl);have HQ:Hid (∀W,Below wp.heap.size wp W->Calls Try.prog 81 #[.agg #[.int .i64 (rO es[j]),y1,y2,y3,y4,y5,y6]] W fun r w'=>r=.returned (.bool (dO es[j]))/\Below W.heap.size W w'):=zH fun W hW=>qX es[j] _ W (hok.old hW) hbe
     generalize es[j]=E at *;have q1:=(HKB.out.old HBP.out).cell 1;have r0:wp.cell? ⟨g,o+j*7,none⟩=some (.int .i64 (rO E)):=hc 0 _ rfl;have r1:wp.cell? ⟨g,o+j*7+1,none⟩=some y1:=hc 1 _ rfl;have r2:wp.cell? ⟨g,o+j*7+2,none⟩=some y2:=hc 2 _ rfl;have r3:wp.cell? ⟨g,o+j*7+3,none⟩=some y3:=hc 3 _ rfl;have r4:wp.cell? ⟨g,o+j*7+4,none⟩=some y4:=hc 4 _ rfl;have r5:wp.cell? ⟨g,o+j*7+5,none⟩=some y5:=hc 5 _ rfl;have r6:wp.cell? ⟨g,o+j*7+6,none⟩=some y6:=hc 6 _ rfl;obtain⟨z2,hz2⟩:∃z,(y&&(rO E !=13&&dO E))=z:=⟨_,rfl⟩
     have Vu:(z2&&(es.drop (j+1)).all xR)=RES:=by
      rw[<-hr,<-hz2];unfold xR;cases y<;>simp[Bool.and_assoc]
     have Me:=zH Vu;have HZ2:=zH hz2;clear hr Vu hz2 hc hok hbe hbw Sl hg;cases y
     case false=>
      have hst:z2=false:=by rw[<-HZ2.out];rfl
      subst hst;clear HZ2;go_wp2
      go_roundw
      case rel=>exact⟨j+1,_,by omega,rfl,by go_num,Me,AB⟩
      case measure=>simp[intOf];omega
     case true=>
     by_cases h13:rO E=13
     case pos=>
      have hI:((rO E:Int) !=13)=false:=by rw[bne_eq_false_iff_eq];omega
      have hst:z2=false:=by rw[<-HZ2.out,h13];rfl
      subst hst;clear HZ2 h13;go_wp2
      go_roundw
      case rel=>exact⟨j+1,_,by omega,rfl,by go_num,Me,AB⟩
      case measure=>simp[intOf];omega
     case neg=>
      have hI:((rO E:Int) !=13)=true:=by rw[bne_iff_ne];omega
      have hst:dO E=z2:=by
       rw[<-HZ2.out];have:(rO E !=13)=true:=by rw[bne_iff_ne];exact h13
       rw[this];rfl
      have HST:=zH hst;clear HZ2 h13 hst;go_wp2_with fail
      refine(HQ.out wp zR).mono ?_;rintro r w6 ⟨rfl,hb6⟩;have WU:=zH (AB.out.trans (hb6.mono AB.out.size));rw[HST.out];clear hb6 HQ r0 r1 r2 r3 r4 r5 r6 q1;go_wp2
      go_roundw
      case rel=>exact⟨j+1,_,by omega,rfl,by go_num,Me,WU⟩
      case measure=>simp[intOf];omega
    ·as_aux_lemma=>
     obtain rfl:j=n2:=by omega
     have hr:=Sl.out;rw[List.drop_eq_nil_of_le (by have:=HL2.out;omega)]at hr;have hR:RES=y:=by rw[<-hr];cases y<;>rfl
     subst hR;have HF:=zH (KZ.out.trans (HBP.out.mono KZ.out.size));clear hr Sl;go_wp2
     go_ret
     exact⟨rfl,by first|exact HF.out|(rw[<-jl.out];exact HF.out)|(rw[jl.out];exact HF.out)⟩
end Go.Proofs.Ytbjnhllkdilpfaa
