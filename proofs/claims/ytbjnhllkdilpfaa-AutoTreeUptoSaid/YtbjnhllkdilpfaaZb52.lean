/- Part 52 of the proof. No conditions. -/
import Derived.Test.YtbjnhllkdilpfaaZb45
namespace Go.Proofs.Ytbjnhllkdilpfaa
open Go.RowKit
set_option linter.unusedSimpArgs false
set_option linter.unusedVariables false
set_option maxHeartbeats 16000000
set_option maxRecDepth 100000
def Ah (i:Int):Nat->List kG->List Int
 |_,[]=>[]
 |k,s::l=>if s.p=i then(k:Int)::Ah i (k+1) l else Ah i (k+1) l
theorem JQ (i:Int):∀(l:List kG) (k:Nat),(Ah i k l).length<=l.length
 |[],k=>Nat.le_refl _
 |s::l,k=>by
  have:=JQ i l (k+1);unfold Ah
  split<;>simp only[List.length_cons]<;>omega
theorem oM (bg:Int) (kA A:Option Addr) (kn kc c:Nat) (l:List kG) (i:Int) (w:World) (h:PZ A l w):Calls Try.prog 9 #[.agg #[.int .i64 bg,.slice kA kn kc,.slice A l.length c],.int .i64 i] w fun r w'=>∃(A':Option Addr) (c':Nat),r=.returned (.slice A' (Ah i 0 l).length c')/\w'.ownsRow w.heap.size 3 1 (.slice A' (Ah i 0 l).length c') (Ah i 0 l).length (aI (Ah i 0 l))/\Below w.heap.size w w':=by
 obtain⟨RES,hres⟩:∃z,Ah i 0 l=z:=⟨_,rfl⟩
 rw[hres];have H0:Hid ([]++Ah i 0 (l.drop 0)=RES):=zH (by rw[List.drop_zero,List.nil_append];exact hres);have HI:=zH h;obtain⟨n,hn⟩:∃z,l.length=z:=⟨_,rfl⟩
 have hn2:n<=1099511627776:=by rw[<-hn];exact h.len
 rw[hn];have HN:=zH hn;clear hres h hn;obtain⟨iT,hT,hT0,hT1,hT2⟩:=info_parts qL
 go_enter Try.func9,Try.ntmps9
 have k1:=Bk.new w 34 #[.int .i64 bg,.slice kA kn kc,.slice A n c];have hb1:Below w.heap.size w (w.alloc (.cells #[.int .i64 bg,.slice kA kn kc,.slice A n c] 34)):=zR.alloc zL _;go_upto_region 1 with fail
 obtain⟨w1,hw1⟩:∃z,w.alloc (.cells #[.int .i64 bg,.slice kA kn kc,.slice A n c] 34)=z:=⟨_,rfl⟩
 rw[hw1]at k1 hb1⊢;obtain⟨g1,hg1⟩:∃z,w.heap.size=z:=⟨_,rfl⟩
 rw[hg1]at k1;have q2:w1.cell? ⟨g1,2,none⟩=some (.slice A n c):=k1.cell 2;have lJ:Hid (w1.ownsRow w.heap.size 3 1 (.slice none 0 0) 0 (aI [])/\Below w.heap.size w w1):=zH ⟨World.ownsRow_nil _ _ _ _,hb1⟩;clear k1 hb1 hw1;go_upto_region 2 with fail
 rw[hg1];clear hg1;go_wp2_with fail
 clear q2
 go_loopw[5,11] (fun lv iv wr=>∃(k m:Nat) (A':Option Addr) (c':Nat) (xs:List Int),k<=n/\m<=k/\lv=.slice A' m c'/\iv=.int .i64 k/\Hid (xs.length=m/\xs++Ah i k (l.drop k)=RES)/\Hid (wr.ownsRow w.heap.size 3 1 (.slice A' m c') m (aI xs)/\Below w.heap.size w wr)) (fun _ iv _=>n-(intOf iv).toNat)
 case atStart=>exact⟨0,0,none,0,[],Nat.zero_le _,Nat.le_refl _,rfl,rfl,zH ⟨rfl,H0.out⟩,lJ⟩
 case round=>
  clear H0 lJ;obtain⟨k,m,A',c',xs,hk,hm,rfl,rfl,HR,HV⟩:=hrel;obtain⟨wo,rfl⟩:∃wo:World,wo=wr:=⟨_,rfl⟩
  by_cases hlt:k<n
  ·as_aux_lemma=>
   have hkl:k<l.length:=by rw[HN.out];exact hlt
   obtain⟨g,o,rfl,hg,hc⟩:=HI.out.rd.elem (n:=8) rE (by omega) hkl;have hr:=HR.out.2;rw[List.drop_eq_getElem_cons hkl]at hr;obtain⟨s,hs⟩:∃z,l[k]=z:=⟨_,rfl⟩
   rw[hs]at hc hr;obtain⟨p,t,mb,win,⟨A4,n4,c4⟩,⟨A5,n5,c5⟩,⟨A6,n6,c6⟩,eA,ec,es⟩:=s;have hr2:xs++(if p=i then(k:Int)::Ah i (k+1) (l.drop (k+1))else Ah i (k+1) (l.drop (k+1)))=RES:=hr;obtain⟨ne,hne⟩:∃z,es.length=z:=⟨_,rfl⟩
   have hcc:∀(q:Nat) (u:Value),(kG.mk p t mb win ⟨A4,n4,c4⟩ ⟨A5,n5,c5⟩ ⟨A6,n6,c6⟩ eA ec es).cells[q]? =some u->wo.cell? ⟨g,o+k*8+q,none⟩=some u:=fun q u hu=>(aU HV.out.2 g _ hg).trans (hc q u hu)
   have r0:wo.cell? ⟨g,o+k*8,none⟩=some (.int .i64 p):=hcc 0 _ rfl;have r1:wo.cell? ⟨g,o+k*8+1,none⟩=some (.int .i64 t):=hcc 1 _ rfl;have r2:wo.cell? ⟨g,o+k*8+2,none⟩=some (.bool mb):=hcc 2 _ rfl;have r3:wo.cell? ⟨g,o+k*8+3,none⟩=some (.int .i64 win):=hcc 3 _ rfl;have r4:wo.cell? ⟨g,o+k*8+4,none⟩=some (.slice A4 n4 c4):=hcc 4 _ rfl;have r5:wo.cell? ⟨g,o+k*8+5,none⟩=some (.slice A5 n5 c5):=hcc 5 _ rfl;have r6:wo.cell? ⟨g,o+k*8+6,none⟩=some (.slice A6 n6 c6):=hcc 6 _ rfl;have r7:wo.cell? ⟨g,o+k*8+7,none⟩=some (.slice eA ne ec):=by rw[<-hne];exact hcc 7 _ rfl
   have HR2:=zH hr2;have HLX:=zH HR.out.1;clear hcc hc hr hr2 hne hs hg HR;go_upto_region 5 with(first|(refine ae D5 rfl _ _ rfl rfl [.int .i64 p,.int .i64 t,.bool mb,.int .i64 win,.slice A4 n4 c4,.slice A5 n5 c5,.slice A6 n6 c6,.slice eA ne ec] rfl (Bk.new wo _ _) rfl rfl rfl ?_;intro w4 p4;go_frame))
   have hb4:Below wo.heap.size wo w4:=p4.below _ _ (zR.alloc zL _) zL;obtain⟨gt,hgt⟩:∃z,wo.heap.size=z:=⟨_,rfl⟩
   have hkt:=p4.bk;rw[hgt]at hkt⊢;have gZ:Hid (w4.ownsRow w.heap.size 3 1 (.slice A' m c') m (aI xs)/\Below w.heap.size w w4):=zH ⟨aP HV.out.1 hb4,HV.out.2.trans (hb4.mono HV.out.2.size)⟩;have t0:w4.cell? ⟨gt,0,none⟩=some (.int .i64 p):=hkt.cell 0;clear r0 r1 r2 r3 r4 r5 r6 r7 p4 hb4 hkt hgt HV
   by_cases hpi:p=i
   ·as_aux_lemma=>
    subst hpi;have hr:=HR2.out;rw[if_pos rfl]at hr;have HR3:Hid ((xs++[(k:Int)]).length=m+1/\(xs++[(k:Int)])++Ah p (k+1) (l.drop (k+1))=RES):=zH ⟨by rw[List.length_append,HLX.out];rfl,by rw[<-hr,List.append_assoc];rfl⟩;have fV:Below w4.heap.size w4 (w4.alloc (.cells #[.int .i64 k] 3)):=zR.alloc zL _;have bz:=aP gZ.out.1 fV;have hbW:=gZ.out.2.trans (fV.mono gZ.out.2.size);have kK:=hbW.size;clear hr HR2 HLX gZ;go_wp2_with (first|at_builtin;(refine az (by rfl) _ _ 22 (by rfl) w.heap.size 3 iT _ 1 8 Try.underlying22 hT hT0 hT1 hT2 rfl (by decide) (.slice A' m c') m _ (by rfl) bz (w4.heap.size+1) (some ⟨w4.heap.size,0,none⟩) 1 1 [.int .i64 k] (by rfl) (Rd.lit rfl _ _) (by rfl) ?c2 ?c3 ?c4 kK ?_))
    case c2=>intro u hu;simp at hu;rcases hu with rfl;rfl
    case c3=>unfold maxLen;omega
    case c4=>omega
    intro A6 c6 w9 hown6 iy _
    have HN9:Hid (w9.ownsRow w.heap.size 3 1 (.slice A6 (m+1) c6) (m+1) (aI (xs++[(k:Int)]))/\Below w.heap.size w w9):=zH ⟨by
     unfold aI at hown6⊢;rw[List.map_append]
     exact hown6,hbW.grown iy hbW.size fun q hq=>(bz.lt q hq).1⟩
    clear hown6 iy bz kK hbW fV t0;go_wp2
    go_roundw
    case rel=>exact⟨k+1,m+1,A6,c6,xs++[(k:Int)],by omega,by omega,rfl,by go_num,HR3,HN9⟩
    case measure=>simp[intOf];omega
   ·as_aux_lemma=>
    have hr:=HR2.out;rw[if_neg hpi]at hr;have HR3:=zH (And.intro HLX.out hr);clear hr HR2 HLX;go_wp2
    go_roundw
    case rel=>exact⟨k+1,m,A',c',xs,by omega,by omega,rfl,by go_num,HR3,gZ⟩
    case measure=>simp[intOf];omega
  ·as_aux_lemma=>
   obtain rfl:k=n:=by omega
   have hr:=HR.out;rw[List.drop_eq_nil_of_le (by rw[HN.out];exact Nat.le_refl _)]at hr;obtain⟨h1,h2⟩:=hr;have h2:xs++[]=RES:=h2;rw[List.append_nil]at h2;subst h2;clear HR;go_wp2
   go_ret
   exact⟨A',c',by rw[h1];rfl,by rw[h1];exact HV.out.1,HV.out.2⟩
theorem ints_at {w:World} {A:Option Addr} {xs:List Int} {B:Nat} (h:Rd w B A (aI xs)) {k:Nat} (hk:k<xs.length):∃g o,A=some ⟨g,o,none⟩/\g<B/\w.cell? ⟨g,o+k,none⟩=some (.int .i64 xs[k]):=by
 have h':Rd w B A (xs.flatMap fun x=>[Value.int .i64 x]):=by
  have:aI xs=xs.flatMap fun x=>[Value.int .i64 x]:=by
   unfold aI;exact List.map_eq_flatMap
  rw[<-this];exact h
 obtain⟨g,o,hA,hg,hc⟩:=h'.elem (n:=1) (fun _=>rfl) (by omega) hk;exact⟨g,o,hA,hg,by have:=hc 0 _ rfl;simpa using this⟩
def UO:List Int->List Int->Bool
 |x::xs,y::ys=>if x=y then UO xs ys else false
 |_,_=>true
theorem Qa:∀(xs ys:List Int),xs.length=ys.length->(UO xs ys=true<->xs=ys)
 |[],[],_=>by simp[UO]
 |x::xs,y::ys,h=>by
  have ih:=Qa xs ys (by simpa using h);unfold UO
  by_cases hx:x=y
  ·rw[if_pos hx,ih];simp[hx]
  ·rw[if_neg hx];simp[hx]
theorem LH (A A2:Option Addr) (c c2:Nat) (xs ys:List Int) (w:World) (h1:Rd w w.heap.size A (aI xs)) (h2:Rd w w.heap.size A2 (aI ys)) (hx:xs.length<=1099511627776) (hy:ys.length<=1099511627776):Calls Try.prog 11 #[.slice A xs.length c,.slice A2 ys.length c2] w fun r w'=>r=.returned (.bool (decide (xs=ys)))/\Below w.heap.size w w':=by
 obtain⟨RES,hres⟩:∃z,decide (xs=ys)=z:=⟨_,rfl⟩
 rw[hres];have H1:=zH h1;have H2:=zH h2;obtain⟨n,hn⟩:∃z,xs.length=z:=⟨_,rfl⟩
 obtain⟨n2,hn2⟩:∃z,ys.length=z:=⟨_,rfl⟩
 have HR:=zH hres;have HN:=zH (And.intro hn hn2);rw[hn,hn2];rw[hn]at hx;rw[hn2]at hy;clear h1 h2 hres hn hn2
 go_enter Try.func11,Try.ntmps11
 by_cases hne:n=n2
 ·subst hne
  have hr:UO (xs.drop 0) (ys.drop 0)=RES:=by
   rw[List.drop_zero,List.drop_zero,<-HR.out];have:=Qa xs ys (HN.out.1.trans HN.out.2.symm)
   by_cases he:xs=ys
   ·rw[decide_eq_true he];exact this.2 he
   ·rw[decide_eq_false he];cases hs:UO xs ys
    ·rfl
    ·exact absurd (this.1 hs) he
  have HS:=zH hr;have HB:=zH (Below.refl w.heap.size w);clear hr HR;go_wp2_with fail
  go_loopw[13] (fun iv wr=>∃k:Nat,k<=n/\iv=.int .i64 k/\Hid (UO (xs.drop k) (ys.drop k)=RES)/\Hid (Below w.heap.size w wr)) (fun iv _=>n-(intOf iv).toNat)
  case atStart=>exact⟨0,Nat.zero_le _,rfl,HS,HB⟩
  case round=>
   clear HS HB;obtain⟨k,hk,rfl,HS,HB⟩:=hrel;obtain⟨wo,rfl⟩:∃wo:World,wo=wr:=⟨_,rfl⟩
   by_cases hlt:k<n
   ·as_aux_lemma=>
    have hk1:k<xs.length:=by rw[HN.out.1];exact hlt
    have hk2:k<ys.length:=by rw[HN.out.2];exact hlt
    obtain⟨g,o,rfl,hg,hc⟩:=ints_at H1.out hk1;obtain⟨g2,o2,rfl,hg2,hc2⟩:=ints_at H2.out hk2;have hs:=HS.out;rw[List.drop_eq_getElem_cons hk1,List.drop_eq_getElem_cons hk2]at hs;obtain⟨x,hx'⟩:∃z,xs[k]=z:=⟨_,rfl⟩
    obtain⟨y,hy'⟩:∃z,ys[k]=z:=⟨_,rfl⟩
    rw[hx']at hc hs;rw[hy']at hc2 hs;have d1:=(aU HB.out g _ hg).trans hc;have d2:=(aU HB.out g2 _ hg2).trans hc2;unfold UO at hs
    by_cases hxy:x=y
    ·subst hxy;rw[if_pos rfl]at hs;have HS2:=zH hs;clear hs hc hc2 hx' hy' hg hg2 HS;go_upto_region 6 with fail
     go_quiet (fail)
     all_goals
      have HB2:=zH (below_drewN HB.out nq)
     all_goals go_wp2
     all_goals go_roundw
     case rel=>exact⟨k+1,by omega,by go_num,HS2,HB2⟩
     case measure=>simp[intOf];omega
    ·rw[if_neg hxy]at hs;subst hs;clear hc hc2 hx' hy' hg hg2 HS;go_upto_region 6 with fail
     go_quiet (fail)
     all_goals
      have HB2:=zH (below_drewN HB.out nq)
     all_goals go_wp2
     all_goals go_ret
     all_goals exact⟨rfl,HB2.out⟩
   ·as_aux_lemma=>
    obtain rfl:k=n:=by omega
    have hs:=HS.out;rw[List.drop_eq_nil_of_le (by rw[HN.out.1];exact Nat.le_refl _),List.drop_eq_nil_of_le (by rw[HN.out.2];exact Nat.le_refl _)]at hs;have hs:true=RES:=hs;subst hs;clear HS;go_wp2
    go_ret
    exact⟨rfl,HB.out⟩
 ·have hr:=HR.out
  have:RES=false:=by
   rw[<-hr,decide_eq_false_iff_not];intro e;rw[e]at HN;exact hne (HN.out.1.symm.trans HN.out.2)
  subst this;clear hr HR;have hneI:((n:Int) !=(n2:Int))=true:=by rw[bne_iff_ne];omega
  go_wp2_with fail
  go_ret
  exact⟨rfl,Below.refl _ _⟩
theorem CW (w:World) (g i:Nat) (v:Value):w.grownBy (w.setCell ⟨g,i,none⟩ v) (some g):=
 ⟨rfl,rfl,rfl,by simp,fun q _ hq=>Below.heap_setCell w _ _ q (by show q≠g;intro e;exact hq (by rw[e]))⟩
def Qb (xs ys:List Int) (a:Nat):Prop:=ys.length=xs.length/\∀k,k<xs.length->ys[k]? =if k<a\/xs.length-1-a<k then xs[xs.length-1-k]? else xs[k]?
theorem Qb.zero (xs:List Int):Qb xs xs 0:=⟨rfl,fun k hk=>by rw[if_neg (by omega)]⟩
theorem Qb.step {xs ys:List Int} {a b:Nat} {x y:Int} (h:Qb xs ys a) (hab:a<b) (hb:b=xs.length-1-a) (hx:ys[a]? =some x) (hy:ys[b]? =some y):Qb xs ((ys.set a y).set b x) (a+1):=by
 obtain⟨h1,h2⟩:=h;have hbl:b<xs.length:=by omega
 refine⟨by simp[h1],fun k hk=>?_⟩;have ha:=h2 a (by omega);have hbb:=h2 b hbl;rw[if_neg (by omega)]at ha hbb;rw[hx]at ha;rw[hy]at hbb;rw[List.getElem?_set,List.getElem?_set]
 by_cases hkb:b=k
 ·subst hkb;rw[if_pos rfl,if_pos (by simp[h1];omega),if_pos (by omega),ha]
  congr 1
  omega
 ·rw[if_neg hkb]
  by_cases hka:a=k
  ·subst hka;rw[if_pos rfl,if_pos (by rw[h1];omega),if_pos (by omega),hbb]
   congr 1
  ·rw[if_neg hka,h2 k hk]
   by_cases hc:k<a\/xs.length-1-a<k
   ·rw[if_pos hc,if_pos (by omega)]
   ·rw[if_neg hc,if_neg (by omega)]
theorem Qb.done {xs ys:List Int} {a:Nat} (h:Qb xs ys a) (ha:xs.length-1-a<=a):ys=xs.reverse:=by
 obtain⟨h1,h2⟩:=h
 apply List.ext_getElem?
 intro k
 by_cases hk:k<xs.length
 ·rw[h2 k hk,List.getElem?_reverse hk]
  split
  ·rfl
  ·congr 1
   omega
 ·rw[List.getElem?_eq_none (by omega),List.getElem?_eq_none (by simp;omega)]
theorem Aj (xs:List Int) (i:Nat) (x:Int):(aI xs).set i (.int .i64 x)=aI (xs.set i x):=by
 unfold aI;rw[List.map_set]
theorem wK {w:World} {base n c g:Nat} {xs:List Int} (h:w.ownsRow base 3 1 (.slice (some ⟨g,0,none⟩) n c) n (aI xs)) {k:Nat} (hk:k<xs.length):w.cell? ⟨g,k,none⟩=some (.int .i64 xs[k]):=by
 obtain⟨g',o',hA,_,hc⟩:=ints_at (bP h) hk;injection hA with hA
 injection hA with e1 e2
 subst e1;subst e2
 simpa using hc
def revR (g n c a b base:Nat) (x y:Int) (ys:List Int):List Spec:=[.is (.slice (some ⟨g,0,none⟩) n c),
 .is (.int .i64 (a:Nat)),
 .is (.slice (some ⟨g,0,none⟩) n c),
 .is (.int .i64 (b:Nat)),
 .is (.slice (some ⟨g,0,none⟩) n c),
 .is (.int .i64 (b:Nat)),
 .is (.pointer (some ⟨g,b,none⟩)),
 .is (.int .i64 y),
 .is (.slice (some ⟨g,0,none⟩) n c),
 .is (.int .i64 (a:Nat)),
 .is (.pointer (some ⟨g,a,none⟩)),
 .is (.int .i64 x),
 .is (.pointer (some ⟨g,a,none⟩)),
 .st (fun v w=>w.ownsRow base 3 1 (.slice (some ⟨g,0,none⟩) n c) n ((aI ys).set a (.int .i64 y))) (fun _ _ _ hb h=>aP h hb)]
theorem Gy (base g n c:Nat) (xs:List Int) (w:World) (hn:xs.length=n) (hn0:0<n) (hn4:n<=1099511627776) (h:w.ownsRow base 3 1 (.slice (some ⟨g,0,none⟩) n c) n (aI xs)):Calls Try.prog 21 #[.slice (some ⟨g,0,none⟩) n c] w fun r w'=>r=.returned (.tuple #[])/\w'.ownsRow base 3 1 (.slice (some ⟨g,0,none⟩) n c) n (aI xs.reverse)/\w.grownBy w' (some g):=by
 have H0:Hid (Qb xs xs 0):=zH (Qb.zero xs);have lJ:Hid (w.ownsRow base 3 1 (.slice (some ⟨g,0,none⟩) n c) n (aI xs)/\w.grownBy w (some g)):=zH ⟨h,below_grown zR _⟩;have HN:=zH hn;clear h hn
 go_enter Try.func21,Try.ntmps21
 have hsub:((n:Int)-1)=((n-1-0:Nat):Int):=by omega
 go_wp2_with fail
 clear hsub
 go_loopw[2,3] (fun iv jv wr=>∃(a:Nat) (ys:List Int),2*a<=n/\iv=.int .i64 a/\jv=.int .i64 ((n-1-a:Nat):Int)/\Hid (Qb xs ys a)/\Hid (wr.ownsRow base 3 1 (.slice (some ⟨g,0,none⟩) n c) n (aI ys)/\w.grownBy wr (some g))) (fun iv _ _=>n-(intOf iv).toNat)
 case atStart=>exact⟨0,xs,by omega,rfl,by go_num,H0,lJ⟩
 case round=>
  clear H0 lJ;obtain⟨a,ys,ha,rfl,rfl,HR,HV⟩:=hrel;obtain⟨wo,rfl⟩:∃wo:World,wo=wr:=⟨_,rfl⟩
  obtain⟨b,hb⟩:∃z,n-1-a=z:=⟨_,rfl⟩
  rw[hb]
  by_cases hlt:a<b
  ·as_aux_lemma=>
   have hyl:ys.length=n:=HR.out.1.trans HN.out;have hal:a<ys.length:=by omega
   have hbl:b<ys.length:=by omega
   have ca:=wK HV.out.1 hal;have cb:=wK HV.out.1 hbl;obtain⟨x,hx⟩:∃z,ys[a]=z:=⟨_,rfl⟩
   obtain⟨y,hy⟩:∃z,ys[b]=z:=⟨_,rfl⟩
   rw[hx]at ca;rw[hy]at cb;have HX:Hid (ys[a]? =some x/\ys[b]? =some y):=zH ⟨by rw[List.getElem?_eq_getElem hal,hx],by rw[List.getElem?_eq_getElem hbl,hy]⟩;have uN:=zH HV.out.1;have hgl:=World.block_lt_of_cell? _ _ ca;have hbn:b<n:=by omega
   have han:a<n:=by omega
   clear hx hy;go_upto_region 3 with fail
   refine mr 14 13 (some g) (by decide) (by kernel_rfl) (fun qk=>(revR g n c a b base x y ys).getD qk .any) (by kernel_rfl) ?_ ?_
   ·refine bC.cons rfl [] [0] rfl _ rfl (by kernel_rfl) rfl (by kernel_rfl) (by kernel_rfl) (fun qK qa wr hB qO qF hK=>?_) ?_
    ·have e0:qa.tmps[0]? =some (.slice (some ⟨g,0,none⟩) n c):=qO.1.trans rfl;clear qO qF;go_simp;exact hK _ _ zR rfl
    refine bC.cons rfl [] [2] rfl _ rfl (by kernel_rfl) rfl (by kernel_rfl) (by kernel_rfl) (fun qK qa wr hB qO qF hK=>?_) ?_
    ·have e2:qa.tmps[2]? =some (.int .i64 (a:Nat)):=qO.1.trans rfl;clear qO qF;go_simp;exact hK _ _ zR rfl
    refine bC.pure rfl [] [0] rfl rfl (by kernel_rfl) (by kernel_rfl) (.slice (some ⟨g,0,none⟩) n c) rfl (fun qK qa wr qO qF hK=>?_) ?_
    ·have e0:qa.tmps[0]? =some (.slice (some ⟨g,0,none⟩) n c):=qO.1.trans rfl;clear qO qF;go_simp;exact hK
    refine bC.pure rfl [] [3] rfl rfl (by kernel_rfl) (by kernel_rfl) (.int .i64 (b:Nat)) rfl (fun qK qa wr qO qF hK=>?_) ?_
    ·have e3:qa.tmps[3]? =some (.int .i64 (b:Nat)):=qO.1.trans rfl;clear qO qF;go_simp;exact hK
    refine bC.cons rfl [] [0] rfl _ rfl (by kernel_rfl) rfl (by kernel_rfl) (by kernel_rfl) (fun qK qa wr hB qO qF hK=>?_) ?_
    ·have e0:qa.tmps[0]? =some (.slice (some ⟨g,0,none⟩) n c):=qO.1.trans rfl;clear qO qF;go_simp;exact hK _ _ zR rfl
    refine bC.cons rfl [] [3] rfl _ rfl (by kernel_rfl) rfl (by kernel_rfl) (by kernel_rfl) (fun qK qa wr hB qO qF hK=>?_) ?_
    ·have e3:qa.tmps[3]? =some (.int .i64 (b:Nat)):=qO.1.trans rfl;clear qO qF;go_simp;exact hK _ _ zR rfl
    refine bC.cons rfl [4,5] [] rfl _ rfl (by kernel_rfl) rfl (by kernel_rfl) (by kernel_rfl) (fun qK qa wr hB qO qF hK=>?_) ?_
    ·have e18:=aH qF.1 rfl rfl;have e19:=aH qF.2.1 rfl rfl;clear qO qF;go_simp;exact hK _ _ zR rfl
    refine bC.cons rfl [6] [] rfl _ rfl (by kernel_rfl) rfl (by kernel_rfl) (by kernel_rfl) (fun qK qa wr hB qO qF hK=>?_) ?_
    ·have e20:=aH qF.1 rfl rfl;clear qO qF;have hcb:=(aU hB g _ hgl).trans cb;go_simp;exact hK _ _ zR rfl
    refine bC.cons rfl [] [0] rfl _ rfl (by kernel_rfl) rfl (by kernel_rfl) (by kernel_rfl) (fun qK qa wr hB qO qF hK=>?_) ?_
    ·have e0:qa.tmps[0]? =some (.slice (some ⟨g,0,none⟩) n c):=qO.1.trans rfl;clear qO qF;go_simp;exact hK _ _ zR rfl
    refine bC.cons rfl [] [2] rfl _ rfl (by kernel_rfl) rfl (by kernel_rfl) (by kernel_rfl) (fun qK qa wr hB qO qF hK=>?_) ?_
    ·have e2:qa.tmps[2]? =some (.int .i64 (a:Nat)):=qO.1.trans rfl;clear qO qF;go_simp;exact hK _ _ zR rfl
    refine bC.cons rfl [8,9] [] rfl _ rfl (by kernel_rfl) rfl (by kernel_rfl) (by kernel_rfl) (fun qK qa wr hB qO qF hK=>?_) ?_
    ·have e22:=aH qF.1 rfl rfl;have e23:=aH qF.2.1 rfl rfl;clear qO qF;go_simp;exact hK _ _ zR rfl
    refine bC.cons rfl [10] [] rfl _ rfl (by kernel_rfl) rfl (by kernel_rfl) (by kernel_rfl) (fun qK qa wr hB qO qF hK=>?_) ?_
    ·have e24:=aH qF.1 rfl rfl;clear qO qF;have hca:=(aU hB g _ hgl).trans ca;go_simp;exact hK _ _ zR rfl
    refine bC.cons rfl [0,1] [] rfl _ rfl (by kernel_rfl) rfl (by kernel_rfl) (by kernel_rfl) (fun qK qa wr hB qO qF hK=>?_) ?_
    ·have e14:=aH qF.1 rfl rfl;have e15:=aH qF.2.1 rfl rfl;clear qO qF;go_simp;exact hK _ _ zR rfl
    refine bC.app rfl [7,12] [] rfl (by kernel_rfl) (by kernel_rfl) (fun qK qa wr hB qO qF hK=>?_) ?_
    ·have e21:=aH qF.1 rfl rfl;have e26:=aH qF.2.1 rfl rfl;clear qO qF;have hrow:=aP uN.out hB;have hfz:=jb hrow (g:=g) rfl a;have hce:=(aU hB g _ hgl).trans ca;have hrow2:=lu hrow (g:=g) rfl a (by unfold aI;rw[List.length_map];omega) (.int .i64 y);go_simp;exact hK undef _ (World.grownBy.trans (below_grown hB _) (CW wr g a _)) (by simp) hrow2
    exact bC.nil
   intro vals wr hl hG hR
   match vals,hl with
   |[z14,z15,YX,z17,z18,z19,z20,z21,z22,z23,z24,z25,z26,zs],_=>
   have r2:YX=.slice (some ⟨g,0,none⟩) n c:=hR 2 _ rfl;have r3:z17=.int .i64 (b:Nat):=hR 3 _ rfl;have r11:z25=.int .i64 x:=hR 11 _ rfl;subst r2;subst r3;subst r11;have r13:wr.ownsRow base 3 1 (.slice (some ⟨g,0,none⟩) n c) n ((aI ys).set a (.int .i64 y)):=yC (hR 13 _ rfl);clear hR;simp only[List.take_succ_cons,List.take_zero,List.drop_succ_cons,List.drop_zero,List.toList_toArray,List.cons_append,List.nil_append,aN,Act.put,List.setIfInBounds_toArray,List.set_cons_zero,List.set_cons_succ];rw[Aj]at r13;have f2:=jb r13 (g:=g) rfl b;have c2:=wK r13 (k:=b) (by rw[List.length_set];exact hbl);have OG:=lu r13 (g:=g) rfl b (by unfold aI;rw[List.length_map,List.length_set];exact hbl) (.int .i64 x);rw[Aj]at OG;have QR:Hid (Qb xs ((ys.set a y).set b x) (a+1)):=zH (HR.out.step hlt (by rw[HN.out];omega) HX.out.1 HX.out.2);have iM:Hid ((wr.setCell ⟨g,b,none⟩ (.int .i64 x)).ownsRow base 3 1 (.slice (some ⟨g,0,none⟩) n c) n (aI ((ys.set a y).set b x))/\w.grownBy (wr.setCell ⟨g,b,none⟩ (.int .i64 x)) (some g)):=zH ⟨OG,(HV.out.2.trans hG).trans (CW _ _ _ _)⟩;have hsub:((b:Int)-1)=((n-1-(a+1):Nat):Int):=by omega
   clear r13 OG HV HR HX uN ca cb hG;go_wp2
   go_roundw
   case rel=>exact⟨a+1,(ys.set a y).set b x,by omega,by go_num,by rw[<-hsub],QR,iM⟩
   case measure=>simp[intOf];omega
  ·as_aux_lemma=>
   have hd:=HR.out.done (by rw[HN.out];omega);subst hd;clear HR;go_wp2
   first|go_end0|refine bodyPost_ret (v:=.tuple #[]) (by simp[results,Try.results21,go_sem]) rfl ?_|refine bodyPost_end (v:=.tuple #[]) (by simp[results,Try.results21,go_sem]) rfl ?_
   exact⟨rfl,HV.out.1,HV.out.2⟩
def rpF:Nat->List kG->Nat->List Int
 |0,_,_=>[]
 |f+1,l,i=>(i:Int)::(match l[i]? with
  |some s=>if 0<=s.p/\s.p<i then rpF f l s.p.toNat else[]
  |none=>[])
theorem Am (l:List kG):∀(f i:Nat),i<f->rpF f l i=rpF (i+1) l i
 |0,i,h=>by omega
 |f+1,i,h=>by
  show(i:Int)::_=(i:Int)::_
  congr 1
  cases l[i]? with
  |none=>rfl
  |some s=>
   simp only
   by_cases hp:0<=s.p/\s.p<i
   ·rw[if_pos hp,if_pos hp,Am l f s.p.toNat (by omega)]
    by_cases hi:i=0
    ·omega
    ·exact(Am l i s.p.toNat (by omega)).symm
   ·rw[if_neg hp,if_neg hp]
def oW (l:List kG) (i:Int):List Int:=if 0<=i/\i<l.length then rpF (i.toNat+1) l i.toNat else[]
def mO (l:List kG) (i:Int):List Int:=(oW l i).reverse
theorem Ar {l:List kG} {i:Int} (h0:0<=i) (h1:i.toNat<l.length):oW l i=i::(if l[i.toNat].p<i then oW l l[i.toNat].p else[]):=by
 unfold oW;rw[if_pos ⟨h0,by omega⟩]
 show((i.toNat:Nat):Int)::_=_
 rw[List.getElem?_eq_getElem h1];simp only;rw[show((i.toNat:Nat):Int)=i by omega]
 congr 1
 by_cases hp:l[i.toNat].p<i
 ·rw[if_pos hp]
  by_cases h2:0<=l[i.toNat].p
  ·rw[if_pos ⟨h2,hp⟩,if_pos ⟨h2,by omega⟩];exact Am l _ _ (by omega)
  ·rw[if_neg (fun h=>h2 h.1),if_neg (fun h=>h2 h.1)]
 ·rw[if_neg (fun h=>hp h.2),if_neg hp]
theorem reverse_nil (w:World):Calls Try.prog 21 #[.slice none 0 0] w fun r w'=>r=.returned (.tuple #[])/\Below w.heap.size w w':=by
 go_enter Try.func21,Try.ntmps21
 go_wp2_with fail
 go_loopw[2,3] (fun iv jv wr=>iv=.int .i64 0/\jv=.int .i64 (-1)/\Hid (Below w.heap.size w wr)) (fun _ _ _=>0)
 case atStart=>exact⟨rfl,by go_num,zH zR⟩
 case round=>
  obtain⟨rfl,rfl,HB⟩:=hrel;go_wp2
  first|go_end0|refine bodyPost_ret (v:=.tuple #[]) (by simp[results,Try.results21,go_sem]) rfl ?_|refine bodyPost_end (v:=.tuple #[]) (by simp[results,Try.results21,go_sem]) rfl ?_
  exact⟨rfl,HB.out⟩
theorem Gz (bg:Int) (kA A:Option Addr) (kn kc c:Nat) (l:List kG) (i:Int) (w:World) (h:PZ A l w):Calls Try.prog 10 #[.agg #[.int .i64 bg,.slice kA kn kc,.slice A l.length c],.int .i64 i] w fun r w'=>∃(A':Option Addr) (c':Nat),r=.returned (.slice A' (mO l i).length c')/\w'.ownsRow w.heap.size 3 1 (.slice A' (mO l i).length c') (mO l i).length (aI (mO l i))/\Below w.heap.size w w':=by
 obtain⟨RES,hres⟩:∃z,oW l i=z:=⟨_,rfl⟩
 unfold mO;rw[hres];have HI:=zH h;obtain⟨n,hn⟩:∃z,l.length=z:=⟨_,rfl⟩
 have hn2:n<=1099511627776:=by rw[<-hn];exact h.len
 rw[hn];have HN:=zH hn;have H0:Hid (([]:List Int).length=0/\[]++oW l i=RES):=zH ⟨rfl,by rw[List.nil_append];exact hres⟩;clear hres h hn;obtain⟨iT,hT,hT0,hT1,hT2⟩:=info_parts qL
 go_enter Try.func10,Try.ntmps10
 have k1:=Bk.new w 34 #[.int .i64 bg,.slice kA kn kc,.slice A n c];have hb1:Below w.heap.size w (w.alloc (.cells #[.int .i64 bg,.slice kA kn kc,.slice A n c] 34)):=zR.alloc zL _;go_upto_region 1 with fail
 obtain⟨w1,hw1⟩:∃z,w.alloc (.cells #[.int .i64 bg,.slice kA kn kc,.slice A n c] 34)=z:=⟨_,rfl⟩
 rw[hw1]at k1 hb1⊢;obtain⟨g1,hg1⟩:∃z,w.heap.size=z:=⟨_,rfl⟩
 rw[hg1]at k1;have hg1w:w.heap.size<=g1:=by omega
 have lJ:Hid (w1.ownsRow w.heap.size 3 1 (.slice none 0 0) 0 (aI [])/\Below w.heap.size w w1/\Bk w1 g1 34 #[.int .i64 bg,.slice kA kn kc,.slice A n c]):=zH ⟨World.ownsRow_nil _ _ _ _,hb1,k1⟩;clear k1 hb1 hw1;go_upto_region 2 with fail
 try rw[hg1]
 clear hg1;have hm0:0<=i->i<n->0+i.toNat+1<=n:=by intros;omega
 go_loopw[1,5] (fun iv lv wr=>∃(i:Int) (m:Nat) (A':Option Addr) (c':Nat) (xs:List Int),iv=.int .i64 i/\lv=.slice A' m c'/\(0<=i->i<n->m+i.toNat+1<=n)/\m<=n/\Hid (xs.length=m/\xs++oW l i=RES)/\Hid (m=0->A'=none/\c'=0)/\Hid (wr.ownsRow w.heap.size 3 1 (.slice A' m c') m (aI xs)/\Below w.heap.size w wr/\Bk wr g1 34 #[.int .i64 bg,.slice kA kn kc,.slice A n c])) (fun iv _ _=>(intOf iv+1).toNat)
 case atStart=>exact⟨i,0,none,0,[],rfl,rfl,hm0,Nat.zero_le _,H0,zH fun _=>⟨rfl,rfl⟩,lJ⟩
 case round=>
  clear H0 lJ hm0;obtain⟨i,m,A',c',xs,rfl,rfl,hmi,hmn,HR,HZ,HV⟩:=hrel;obtain⟨wo,rfl⟩:∃wo:World,wo=wr:=⟨_,rfl⟩
  have AV:Hid (∀(ys:List Int) (A6:Option Addr) (m6 c6:Nat) (W:World),ys.length=m6->m6<=n->ys=RES->(m6=0->A6=none/\c6=0)->W.ownsRow w.heap.size 3 1 (.slice A6 m6 c6) m6 (aI ys)->Below w.heap.size w W->Calls Try.prog 21 #[.slice A6 m6 c6] W fun r w'=>r=.returned (.tuple #[])/\w'.ownsRow w.heap.size 3 1 (.slice A6 m6 c6) m6 (aI RES.reverse)/\Below w.heap.size w w'):=zH (by
   intro ys A6 m6 c6 W hl h6 he h0 hown hb;subst he
   by_cases hz:m6=0
   ·obtain⟨rfl,rfl⟩:=h0 hz;subst hz;refine(reverse_nil W).mono ?_;rintro r w' ⟨rfl,hb'⟩;refine⟨rfl,?_,hb.trans (hb'.mono hb.size)⟩;have:ys=[]:=List.eq_nil_of_length_eq_zero hl;subst this;exact World.ownsRow_nil _ _ _ _
   ·obtain⟨g,c7,hv,_,_⟩:=jF hown (by omega);injection hv with hv _ hc
    subst hv;subst hc;refine(Gy w.heap.size g m6 c6 ys W hl (by omega) (by omega) hown).mono ?_;rintro r w' ⟨rfl,h7,h8⟩
    exact⟨rfl,h7,hb.grown h8 hb.size fun q hq=>by injection hq with hq;subst hq;exact(hown.lt g rfl).1⟩)
  have q2:wo.cell? ⟨g1,2,none⟩=some (.slice A n c):=HV.out.2.2.cell 2
  by_cases h0:0<=i
  ·by_cases h1:i<n
   ·as_aux_lemma=>
    obtain⟨k,rfl⟩:∃k:Nat,i=k:=⟨i.toNat,by omega⟩
    have hkn:k<n:=by omega
    have hkl:k<l.length:=by rw[HN.out];exact hkn
    obtain⟨g,o,rfl,hg,hc⟩:=HI.out.rd.elem (n:=8) rE (by omega) hkl;have hr:=HR.out.2;rw[Ar h0 (by simpa using hkl)]at hr;simp only[Int.toNat_natCast]at hr;obtain⟨s,hs⟩:∃z,l[k]=z:=⟨_,rfl⟩
    rw[hs]at hc hr;obtain⟨p,t,mb,win,⟨A4,n4,c4⟩,⟨A5,n5,c5⟩,⟨A6,n6,c6⟩,eA,ec,es⟩:=s;simp only at hr;have hm1:=hmi h0 h1;have fV:Below wo.heap.size wo (wo.alloc (.cells #[.int .i64 k] 3)):=zR.alloc zL _;have bz:=aP HV.out.1 fV;have hbW:=HV.out.2.1.trans (fV.mono HV.out.2.1.size);have hkA:=HV.out.2.2.old fV;have kK:=hbW.size;have hc0:w.cell? ⟨g,o+k*8,none⟩=some (.int .i64 p):=hc 0 _ rfl;have HC0:=zH (And.intro hg hc0);have HRR:=zH hr;clear hr hs hc hc0 hg HV;go_wp2_with (first|at_builtin;(refine az (by rfl) _ _ 22 (by rfl) w.heap.size 3 iT _ 1 8 Try.underlying22 hT hT0 hT1 hT2 rfl (by decide) (.slice A' m c') m _ (by rfl) bz (wo.heap.size+1) (some ⟨wo.heap.size,0,none⟩) 1 1 [.int .i64 k] (by rfl) (Rd.lit rfl _ _) (by rfl) ?c2 ?c3 ?c4 kK ?_))
    case c2=>intro u hu;simp at hu;rcases hu with rfl;rfl
    case c3=>unfold maxLen;omega
    case c4=>omega
    intro A9 c9 w9 bD jO _;have zK:some g1≠(Value.slice A' m c').ownBlock:=aF bz hkA (by decide);have k9:=hkA.grown jO zK;have dZ:=hbW.grown jO hbW.size fun q hq=>(bz.lt q hq).1
    have q9:w9.cell? ⟨g1,2,none⟩=some (.slice (some ⟨g,o,none⟩) n c):=k9.cell 2;have s9:w9.cell? ⟨g,o+k*8,none⟩=some (.int .i64 p):=(aU dZ g _ HC0.out.1).trans HC0.out.2
    have pq:Hid (w9.ownsRow w.heap.size 3 1 (.slice A9 (m+1) c9) (m+1) (aI (xs++[(k:Int)]))/\Below w.heap.size w w9/\Bk w9 g1 34 #[.int .i64 bg,.slice kA kn kc,.slice (some ⟨g,o,none⟩) n c]):=zH ⟨by
     unfold aI at bD⊢;rw[List.map_append]
     exact bD,dZ,k9⟩
    have G6:Hid ((xs++[(k:Int)]).length=m+1):=zH (by rw[List.length_append,HR.out.1];rfl);clear bD jO bz kK zK k9 dZ fV hkA hbW q2 HC0 HR
    by_cases hpk:p<k
    ·as_aux_lemma=>
     have hr:=HRR.out;rw[if_pos hpk]at hr;have HR3:Hid ((xs++[(k:Int)]).length=m+1/\(xs++[(k:Int)])++oW l p=RES):=zH ⟨G6.out,by rw[<-hr,List.append_assoc];rfl⟩;have HZ3:Hid (m+1=0->A9=none/\c9=0):=zH fun e=>by omega
     have J8:¬((k:Int)<=p):=by omega
     clear hr HRR G6 AV;go_wp2
     go_roundw
     case rel=>exact⟨p,m+1,A9,c9,xs++[(k:Int)],rfl,rfl,fun _ _=>by omega,by omega,HR3,HZ3,pq⟩
     case measure=>simp[intOf];omega
    ·as_aux_lemma=>
     have hr:=HRR.out;rw[if_neg hpk]at hr;have J8:(k:Int)<=p:=by omega
     have UQ:=zH (AV.out (xs++[(k:Int)]) A9 (m+1) c9 w9 G6.out (by omega) hr (fun e=>by omega) pq.out.1 pq.out.2.1);have hlr:RES.length=m+1:=by rw[<-hr];exact G6.out
     have He:=zH hlr;clear hr HRR G6 AV hlr;go_wp2_with fail
     refine UQ.out.mono ?_;rintro r w' ⟨rfl,h7,h8⟩;have HF:=zH (And.intro h7 h8);clear h7 h8 UQ;go_wp2
     go_ret
     exact⟨A9,c9,by rw[List.length_reverse,He.out];rfl,by rw[List.length_reverse,He.out];exact HF.out.1,HF.out.2⟩
   ·as_aux_lemma=>
    have hr:=HR.out.2;unfold oW at hr;rw[if_neg (by rw[HN.out];omega),List.append_nil]at hr;have UQ:=zH (AV.out xs A' m c' wo HR.out.1 hmn hr HZ.out HV.out.1 HV.out.2.1);have hlr:RES.length=m:=by rw[<-hr];exact HR.out.1
    have He:=zH hlr;clear hr HR AV hlr HV;go_wp2_with fail
    refine UQ.out.mono ?_;rintro r w' ⟨rfl,h7,h8⟩;have HF:=zH (And.intro h7 h8);clear h7 h8 UQ;go_wp2
    go_ret
    exact⟨A',c',by rw[List.length_reverse,He.out];rfl,by rw[List.length_reverse,He.out];exact HF.out.1,HF.out.2⟩
  ·as_aux_lemma=>
   have hr:=HR.out.2;unfold oW at hr;rw[if_neg (fun e=>h0 e.1),List.append_nil]at hr;have UQ:=zH (AV.out xs A' m c' wo HR.out.1 hmn hr HZ.out HV.out.1 HV.out.2.1);have hlr:RES.length=m:=by rw[<-hr];exact HR.out.1
   have He:=zH hlr;clear hr HR AV hlr HV;go_wp2_with fail
   refine UQ.out.mono ?_;rintro r w' ⟨rfl,h7,h8⟩;have HF:=zH (And.intro h7 h8);clear h7 h8 UQ;go_wp2
   go_ret
   exact⟨A',c',by rw[List.length_reverse,He.out];rfl,by rw[List.length_reverse,He.out];exact HF.out.1,HF.out.2⟩
end Go.Proofs.Ytbjnhllkdilpfaa
