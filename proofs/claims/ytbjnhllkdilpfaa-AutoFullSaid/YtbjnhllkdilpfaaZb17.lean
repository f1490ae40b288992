/- Part 17 of the proof. No conditions. -/
import Derived.Test.YtbjnhllkdilpfaaZb16
namespace Go.Proofs.Ytbjnhllkdilpfaa
open Go.RowKit
set_option linter.unusedSimpArgs false
set_option linter.unusedVariables false
set_option maxHeartbeats 16000000
set_option maxRecDepth 100000
def wZ (B:Nat) (w:World) (v:Value) (es:List au):Prop:=∃css:List (List Value),w.ownsRow B 118 7 v css.length css.flatten/\ji (fun g=>B<=g) w es css
theorem di.set6 {b:Nat} {t:TypeId} {u u2:Value} {rr:List Value} {L:List aA} {LA:Option Addr} {Lc:Nat} {s:PS} {w:World} (h:di b t (u::u2::rr) L LA Lc s w) (v:Value):di b t (u::v::rr) L LA Lc s (w.setCell ⟨b,6,none⟩ v):=
 ⟨by simpa[dw]using h.bk.put 6 v,mW h.rd _ _⟩
theorem di.c6 {b:Nat} {t:TypeId} {u u2:Value} {rr:List Value} {L:List aA} {LA:Option Addr} {Lc:Nat} {s:PS} {w:World} (h:di b t (u::u2::rr) L LA Lc s w):w.cell? ⟨b,6,none⟩=some u2:=by rw[h.bk.cell 6];simp[dw]
theorem kN.VE {P:Nat->Prop} {w:World}:∀{e:au} {cs:List Value},kN P w e cs->∃(z0 z2 z3 z6:Int) (A:Option Addr) (k c:Nat) (S1 S2:ByteArray),cs=[.int .i64 z0,.slice A k c,.int .i64 z2,.int .i64 z3,.string S1,.string S2,.int .i64 z6]
 |.leaf op n sc nm a p,cs,h=>by
  obtain rfl:cs=iC op n sc nm a p:=h;exact⟨_,_,_,_,_,_,_,_,_,rfl⟩
 |.un op x p,cs,h=>by
  obtain⟨g,xs,rfl,_⟩:=h;exact⟨_,_,_,_,_,_,_,_,_,rfl⟩
 |.bin op x y p,cs,h=>by
  obtain⟨g,xs,ys,rfl,_⟩:=h;exact⟨_,_,_,_,_,_,_,_,_,rfl⟩
def NW (b B:Nat) (L:List aA) (LA:Option Addr) (Lc:Nat) (v0:Value) (rr:List Value) (s:PS) (w:World) (e:Ending) (w':World):Prop:=
 e=.returned (.tuple #[])/\w.grownBy w' (some b)/\∃v,di b 98 (v0::v::rr) L LA Lc (jB L s).2 w'/\wZ B w' v (jB L s).1
structure WhI (b B g2:Nat) (rest:List Value) (L:List aA) (LA:Option Addr) (Lc:Nat) (w:World) (x:PS) (e:au) (cs:List Value) (W:World):Prop where
 st:di b 98 rest L LA Lc x W
 gw:w.grownBy W (some b)
 k2:Bk W g2 118 cs.toArray
 ok:kN (fun g=>B<=g) W e cs
structure WhJ (b g2:Nat) (rest:List Value) (L:List aA) (LA:Option Addr) (Lc:Nat) (w:World) (x:PS) (e:au) (cs:List Value) (ds:Array Value) (W:World):Prop where
 st:di b 98 rest L LA Lc x W
 gw:w.grownBy W (some b)
 k2:Bk W g2 118 ds
 ok:kN (fun g=>g2+1<=g) W e cs
theorem WhJ.put {b g2:Nat} {rest:List Value} {L:List aA} {LA:Option Addr} {Lc:Nat} {w:World} {x:PS} {e:au} {cs:List Value} {ds:Array Value} {W:World} (h:WhJ b g2 rest L LA Lc w x e cs ds W) (hb:b<g2) (hw:w.heap.size<=g2) (o:Nat) (v:Value):WhJ b g2 rest L LA Lc w x e cs (ds.setIfInBounds o v) (W.setCell ⟨g2,o,none⟩ v):=
 ⟨h.st.far hb v,ui h.gw hw,h.k2.put o v,h.ok.set (by omega)⟩
section
variable (b B:Nat) (L:List aA) (LA:Option Addr) (Lc:Nat) (s:PS) (w:World) (v0:Value) (rr:List Value)
theorem Kw (h : di b 98 (v0 :: .slice none 0 0 :: rr) L LA Lc s w) (he : dL L) (hi : gm L s) (hL : L.length ≤ 4001) (hbB : b < B) (hBw : B ≤ w.heap.size) :
  Calls Try.prog 40 #[.pointer (some ⟨b,0,none⟩)] w (NW b B L LA Lc v0 rr s w):=by
 have HIS:Hid (∀(x:PS) (W:World) (S:ByteArray) (v:Str) (rest:List Value),S.toList=v->gm L x->di b 98 rest L LA Lc x W->Calls Try.prog 39 #[.pointer (some ⟨b,0,none⟩),.string S] W fun r w'=>r=.returned (.bool (eQ L x v))/\Below W.heap.size W w'):=zH fun x W S v rest hv ho h=>by
  have:=kL b _ rest L LA Lc x W S h ho.lt hL
  rwa [hv]at this
 have hwh:(⟨#[87,72,69,82,69]⟩:ByteArray).toList=sF:=by rw[ByteArray.toList_eq];rfl
 unfold NW;obtain⟨RES,hres⟩:∃R,jB L s=R:=⟨_,rfl⟩
 rw[hres];unfold jB at hres;have aK:=zH hres;have HS:=zH h;have hbl:=h.bk.lt;have c3:=h.c3;clear hres h
 go_enter Try.func40,Try.ntmps40
 obtain⟨non,Y4⟩:∃z,(!decide (s.err=0)|| !eQ L s sF)=z:=⟨_,rfl⟩
 have XX:=zH Y4;clear Y4;go_upto_region 0 with fail
 go_cut[18] (fun v wx=>v=.bool non/\Hid (di b 98 (v0::.slice none 0 0::rr) L LA Lc s wx/\Below w.heap.size w wx))
 case first=>
  as_aux_lemma=>
  by_cases h0:s.err=0
  case neg=>
   have iQ:((s.err:Int) !=0)=true:=by rw[bne_iff_ne];omega
   have hst:non=true:=by rw[<-XX.out];simp[h0]
   subst hst;clear h0;go_wp2_with fail
   go_meet
   exact⟨rfl,zH ⟨HS.out,Below.refl _ _⟩⟩
  case pos=>
   have iQ:((s.err:Int) !=0)=false:=by rw[bne_eq_false_iff_eq];omega
   obtain⟨bi,hbi⟩:∃z,eQ L s sF=z:=⟨_,rfl⟩
   have hst:non= !bi:=by rw[<-XX.out,hbi];simp[h0]
   have L6:=zH hbi;subst hst;clear h0 hbi;go_wp2_with fail
   refine(HIS.out s _ _ _ _ hwh hi HS.out).mono ?_;rintro r w2 ⟨rfl,hb2⟩;rw[L6.out];have HM:=zH (And.intro (HS.out.old hb2) hb2);clear hb2;go_wp2_with fail
   go_meet
   exact⟨rfl,HM⟩
 case rest=>
 obtain⟨rfl,HM⟩:=hcut;clear HS c3;cases non
 case true=>
  as_aux_lemma=>
  have hR:=aK.out;rw[if_pos (by have:=XX.out;simpa using this)]at hR;subst hR;clear aK XX;go_wp2_with fail
  (try simp only[Exit.inBlock,Exit.then]);refine bodyPost_ret (v:=.tuple #[]) (by simp[results,Try.results40,go_sem]) rfl ?_
  exact⟨rfl,below_grown HM.out.2 _,_,HM.out.1,[],World.ownsRow_nil _ _ _ _,trivial⟩
 case false=>
  as_aux_lemma=>
  have hno:=XX.out;have hR:=aK.out;rw[if_neg (by simpa using hno)]at hR
  have hw:eQ L s sF=true:=by
   have:s.err=0/\eQ L s sF=true:=by simpa using hno
   exact this.2
  have h0:s.err=0:=by
   have:s.err=0/\eQ L s sF=true:=by simpa using hno
   exact this.1
  have g1:=bn.next he hi (bG hw);have hok1:=g1.ok;have hfew:=EW he (s.i+1) hok1.lt
  have lF:Hid (di b 98 (v0::.slice none 0 0::rr) L LA Lc (aO s) (wc.setCell ⟨b,1,none⟩ (.int .i64 ((s.i:Int)+1)))/\w.grownBy (wc.setCell ⟨b,1,none⟩ (.int .i64 ((s.i:Int)+1))) (some b)):=zH (by
   have hn:=step_next b _ _ L LA Lc s wc HM.out.1
   exact⟨hn.st,(below_grown HM.out.2 _).trans hn.grown⟩)
  obtain⟨W1,hW1⟩:∃z,wc.setCell ⟨b,1,none⟩ (.int .i64 ((s.i:Int)+1))=z:=⟨_,rfl⟩
  have HW1:=zH hW1;rw[hW1]at lF
  have vS:Hid (∀W:World,Below W1.heap.size W1 W->Calls Try.prog 55 #[.slice LA L.length Lc,.int .i64 ((s.i:Int)+1)] W (Jq L (s.i+1) W)):=zH fun W hb=>by
   have hlt:=lF.out.1.bk.lt;have hrd:=lF.out.1.rd.below (hb.mono (Nat.le_of_lt hlt));exact NI L LA Lc (s.i+1) W (hrd.more (by have h2:=hb.size;omega)) he hok1.lt hL
  unfold Jq at vS;generalize lD L (s.i+1)=RT at *;obtain⟨x,nx,ap,er⟩:=RT;simp only at hR hfew vS;have kE:=zH hR;have Q3:=zH hfew;have hi1:s.i<=4001:=by have:=hi.lt;omega
  have d1:=HM.out.1.c1;have f1:=HM.out.1.fr 1;clear XX aK hno hR hw hfew g1 hW1 h0;go_upto_region 2 with fail
  rw[HW1.out];clear d1 f1 HW1 HM;have st1:=lF.out.1;have c0:=st1.c0;have c1:W1.cell? ⟨b,1,none⟩=some (.int .i64 ((s.i:Int)+1)):=st1.c1;have hlt1:=st1.bk.lt;have HK:Hid (∀w',Below W1.heap.size W1 w'->Below W1.heap.size W1 w'/\w'.cell? ⟨b,0,none⟩=some (.slice LA L.length Lc)/\w'.cell? ⟨b,1,none⟩=some (.int .i64 ((s.i:Int)+1))):=zH fun w' hb=>⟨hb,(aU hb b 0 hlt1).trans c0,(aU hb b 1 hlt1).trans c1⟩
  have hB1:B<=W1.heap.size:=by have:=lF.out.2.size;omega
  clear st1
  go_cut[2,3,4,5] (fun v2 v3 v4 v5 wx=>∃(g2:Nat) (cs:List Value),v2=.pointer (some ⟨g2,0,none⟩)/\v3=.int .i64 nx/\v4=.int .i64 ap/\v5=.int .i64 er/\Hid (B<=g2/\WhI b B g2 (v0::.slice none 0 0::rr) L LA Lc w (aO s) x cs wx))
  case first=>
   go_region_held3(fun w'=>Below W1.heap.size W1 w'/\w'.cell? ⟨b,0,none⟩=some (.slice LA L.length Lc)/\w'.cell? ⟨b,1,none⟩=some (.int .i64 ((s.i:Int)+1)))
    (exact HK.out _ (by repeat(first|with_reducible refine Below.setCell ?_ (by simp;try omega) _|with_reducible assumption|with_reducible exact Below.refl _ _|with_reducible refine Below.drew ?_|with_reducible refine Below.alloc ?_ (by first|exact Nat.le_refl _|exact Below.size (by assumption)) _)))
    (first|(go_at_call 55;refine(vS.out _ (by first|assumption|exact zR.drew|exact(zR.alloc zL _).drew)).mono ?_;rintro e w3 ⟨cs,rfl,hok,hb3⟩;have hb4:Below W1.heap.size W1 w3:=(by apply MC (hb:=hb3);assumption);obtain⟨y0,y2,y3,y6,yA,yk,yc,y4,y5,rfl⟩:=hok.VE;(first|(have kz:=Bk.old (show Bk ((W1.alloc (.cells #[.int .i64 0,.slice none 0 0,.int .i64 0,.int .i64 0,.string ⟨#[]⟩,.string ⟨#[]⟩,.int .i64 0] 118)).drew) W1.heap.size 118 _ from(Bk.new _ _ _).drew) hb3;obtain⟨z0,z1,z2,z3,z4,z5,z6⟩:=zc7 kz;have fv0:=kz.frozen 0;have fv1:=kz.frozen 1;have fv2:=kz.frozen 2;have fv3:=kz.frozen 3;have fv4:=kz.frozen 4;have fv5:=kz.frozen 5;have fv6:=kz.frozen 6)|skip)))
   ·as_aux_lemma=>
    have fV:Below w3.heap.size w3 (w3.alloc (.cells #[.int .i64 y0,.slice yA yk yc,.int .i64 y2,.int .i64 y3,.string y4,.string y5,.int .i64 y6] 118)):=zR.alloc zL _
    have HJ:Hid (B<=w3.heap.size/\WhI b B w3.heap.size (v0::.slice none 0 0::rr) L LA Lc w (aO s) x [.int .i64 y0,.slice yA yk yc,.int .i64 y2,.int .i64 y3,.string y4,.string y5,.int .i64 y6] (w3.alloc (.cells #[.int .i64 y0,.slice yA yk yc,.int .i64 y2,.int .i64 y3,.string y4,.string y5,.int .i64 y6] 118))):=
     zH ⟨by have:=hb4.size;omega,(lF.out.1.old hb4).old fV,(lF.out.2.trans (below_grown hb4 _)).trans (below_grown fV _),Bk.new w3 _ _,(hok.old fV).more (by simp;omega)⟩
    clear hok hb4 hb3 HK vS HIS kE fV;go_wp2_with fail
    go_meet
    exact⟨_,_,rfl,rfl,rfl,rfl,HJ⟩
   ·as_aux_lemma=>
    have J0:WhJ b W1.heap.size (v0::.slice none 0 0::rr) L LA Lc w (aO s) x [.int .i64 y0,.slice yA yk yc,.int .i64 y2,.int .i64 y3,.string y4,.string y5,.int .i64 y6] #[.int .i64 0,.slice none 0 0,.int .i64 0,.int .i64 0,.string ⟨#[]⟩,.string ⟨#[]⟩,.int .i64 0] w3:=
     ⟨lF.out.1.old hb4,lF.out.2.trans (below_grown hb4 _),kz,hok.more (by simp)⟩
    have J7:=((((((J0.put hlt1 lF.out.2.size 0 (.int .i64 y0)).put hlt1 lF.out.2.size 1 (.slice yA yk yc)).put hlt1 lF.out.2.size 2 (.int .i64 y2)).put hlt1 lF.out.2.size 3 (.int .i64 y3)).put hlt1 lF.out.2.size 4 (.string y4)).put hlt1 lF.out.2.size 5 (.string y5)).put hlt1 lF.out.2.size 6 (.int .i64 y6);have HJ:Hid (B<=W1.heap.size/\WhI b B W1.heap.size (v0::.slice none 0 0::rr) L LA Lc w (aO s) x [.int .i64 y0,.slice yA yk yc,.int .i64 y2,.int .i64 y3,.string y4,.string y5,.int .i64 y6] _):=zH ⟨hB1,J7.st,J7.gw,by simpa using J7.k2,J7.ok.more (by omega)⟩;clear J0 J7 kz hok hb4 hb3 HK vS HIS kE;go_wp2_with fail
    go_meet
    exact⟨_,_,rfl,rfl,rfl,rfl,HJ⟩
  case rest=>
  obtain⟨g2,cs,rfl,rfl,rfl,rfl,HI⟩:=hcut;clear c0 c1 HK vS HIS;have hB2:=HI.out.1;have HI:=zH HI.out.2
  by_cases her:er=0
  case neg=>
   as_aux_lemma=>
   have iQ:((er:Int) !=0)=true:=by rw[bne_iff_ne];omega
   have hR:=kE.out;rw[if_pos her]at hR;subst hR;have e3:=HI.out.st.c3;have f3:=HI.out.st.fr 3;have s3:=HI.out.st.YD er;have f4:=s3.fr 4;have e4:=s3.c4;have s4:=s3.YE ap;have HF:=zH (And.intro s4 (aY (o:=4) (v:=.int .i64 ap) (aY (o:=3) (v:=.int .i64 er) HI.out.gw)));clear her kE s3 s4 HI Q3;go_wp2_with fail
   (try simp only[Exit.inBlock,Exit.then]);refine bodyPost_ret (v:=.tuple #[]) (by simp[results,Try.results40,go_sem]) rfl ?_
   exact⟨rfl,HF.out.2,_,HF.out.1,[],World.ownsRow_nil _ _ _ _,trivial⟩
  case pos=>
   as_aux_lemma=>
   have iQ:((er:Int) !=0)=false:=by rw[bne_eq_false_iff_eq];omega
   have hR:=kE.out;rw[if_neg (by omega)]at hR;have aK:=zH hR;have e1:=HI.out.st.c1;have f1:=HI.out.st.fr 1;have s1:=HI.out.st.set1 nx;obtain⟨y0,y1,y2,y3,y4,y5,y6,rfl,hone⟩:=HI.out.ok.seven
   have V1:WhI b B g2 (v0::.slice none 0 0::rr) L LA Lc w ⟨nx,s.opn,s.err,s.pos⟩ x [y0,y1,y2,y3,y4,y5,y6] (wc.setCell ⟨b,1,none⟩ (.int .i64 nx)):=
    ⟨s1,aY HI.out.gw,HI.out.k2.far (p:=⟨b,1,none⟩) (by show g2≠b;omega) _,HI.out.ok.set hbB⟩
   have vW:=zH V1;clear s1 kE hR her V1 HI;go_upto_region 6 with fail
   clear e1 f1;generalize wc.setCell ⟨b,1,none⟩ (.int .i64 nx)=W3 at *;have V:=vW.out;obtain⟨q0,q1,q2,q3,q4,q5,q6⟩:=zc7 V.k2;have Y5:=zH (zn (P:=fun g=>B<=g/\g<W3.heap.size) x [y0,y1,y2,y3,y4,y5,y6] W3 (fun q hq=>hq.2) (V.ok.keep fun g hB hg=>⟨⟨hB,hg⟩,rfl⟩) Q3.out.2.1 (by have:=Q3.out.1;omega));clear V hone;go_wp2_with fail
   refine Y5.out.mono ?_;rintro r w4 ⟨v,css,rfl,hown,hfl,hb4⟩;have V4:di b 98 (v0::.slice none 0 0::rr) L LA Lc ⟨nx,s.opn,s.err,s.pos⟩ w4:=vW.out.st.old hb4;have d6:=V4.c6;have f6:=V4.fr 6;have s6:=V4.set6 v;have iy:w4.grownBy (w4.setCell ⟨b,6,none⟩ v) (some b):=aY (World.grownBy.refl _ _);have hlen:=hfl.len;have hB3:B<=W3.heap.size:=by have:=vW.out.gw.size;omega
   have HF:Hid (di b 98 (v0::v::rr) L LA Lc ⟨nx,s.opn,s.err,s.pos⟩ (w4.setCell ⟨b,6,none⟩ v)/\w.grownBy (w4.setCell ⟨b,6,none⟩ v) (some b)/\wZ B (w4.setCell ⟨b,6,none⟩ v) v (jA x)):=zH
    ⟨s6,(vW.out.gw.trans (below_grown hb4 _)).trans iy,css,fP (dF hown hB3) iy hbB,hfl.keep fun g hP hg=>⟨hP.1,(iy.block g (by have:=hb4.size;omega) (aC (by have:=hP.1;omega))).trans (hb4.block g hP.2)⟩⟩
   obtain⟨vA,vc,hv,-⟩:=bF hown;subst hv;clear hown hfl hb4 V4 s6 iy hlen vW Y5 q0 q1 q2 q3 q4 q5 q6 Q3;go_wp2_with fail
   first|go_end0|refine bodyPost_end (v:=.tuple #[]) (by simp[results,Try.results40,go_sem]) rfl ?_
   have hR:=aK.out;subst hR;exact⟨rfl,HF.out.2.1,_,HF.out.1,HF.out.2.2⟩
end
theorem qP (a : Nat) (h : a < 18446744073709551616) (w : World) :
  Calls Try.prog 101 #[.int .u64 a] w fun e w'=>e=.returned (.float .f64 (bH a))/\w=w':=by
 have hb:=ofBits (bH a)
 go_enter Try.func101,Try.ntmps101
 go_wp2_with (go_at_call 102;refine(sS a h _).mono ?_;rintro e w' ⟨rfl,rfl⟩)
 go_ret
 exact⟨rfl,rfl⟩
theorem Rq (a b : Nat) (ha : a < 18446744073709551616) (hb : b < 18446744073709551616) (w : World) :
  Calls Try.prog 96 #[.int .i64 3,.int .u64 a,.int .u64 b] w fun e w'=>e=.returned (.int .u64 (FD .mul (bH a) (bH b):Nat))/\Below w.heap.size w w':=by
 obtain⟨r,wr,e1,hb1,hc,hr⟩:=qM .add (by simp) 177 (bH a) (bH b) w;obtain⟨r2,wr2,e2,hb2,hc2,hr2⟩:=qM .mul (by simp) 177 (bH a) (bH b) wr;rw[<-hc2];clear hc hc2;have hbt:=bitsOf r2
 go_enter Try.func96,Try.ntmps96
 go_wp2_with fail
 refine(qP a ha _).mono ?_;rintro e w' ⟨rfl,rfl⟩;go_wp2_with fail
 refine(qP b hb _).mono ?_;rintro e w' ⟨rfl,rfl⟩;go_wp2_with fail
 refine(sS r2 hr2 _).mono ?_;rintro e w' ⟨rfl,rfl⟩;go_wp2_with fail
 go_ret
 exact⟨rfl,hb1.trans (hb2.mono hb1.size)⟩
theorem Rt (a b : Nat) (ha : a < 18446744073709551616) (hb : b < 18446744073709551616) (w : World) :
  Calls Try.prog 96 #[.int .i64 4,.int .u64 a,.int .u64 b] w fun e w'=>e=.returned (.int .u64 (FD .quo (bH a) (bH b):Nat))/\Below w.heap.size w w':=by
 obtain⟨r,wr,e1,hb1,hc,hr⟩:=qM .add (by simp) 177 (bH a) (bH b) w;obtain⟨r2,wr2,e2,hb2,hc2,hr2⟩:=qM .quo (by simp) 177 (bH a) (bH b) wr;rw[<-hc2];clear hc hc2;have hbt:=bitsOf r2
 go_enter Try.func96,Try.ntmps96
 go_wp2_with fail
 refine(qP a ha _).mono ?_;rintro e w' ⟨rfl,rfl⟩;go_wp2_with fail
 refine(qP b hb _).mono ?_;rintro e w' ⟨rfl,rfl⟩;go_wp2_with fail
 refine(sS r2 hr2 _).mono ?_;rintro e w' ⟨rfl,rfl⟩;go_wp2_with fail
 go_ret
 exact⟨rfl,hb1.trans (hb2.mono hb1.size)⟩
end Go.Proofs.Ytbjnhllkdilpfaa
namespace Go.Proofs.Ytbjnhllkdilpfaa
open Go.RowKit
set_option linter.unusedSimpArgs false
set_option linter.unusedVariables false
theorem FI (c0 c1 c2 c3 c4 c5 c6:Value) (w:World):(Instr.buildSlice 29 1 #[(0,.agg #[c0,c1,c2,c3,c4,c5,c6])]).run Try.prog w=.ok (.slice (some ⟨w.heap.size,0,none⟩) 1 1) (w.alloc (.cells #[c0,c1,c2,c3,c4,c5,c6] 76)):=by kernel_rfl
theorem bK {a:Act} {d:Nat} {v:Value} (h:a.tmps[d]? =some v):a.eval (.tmp d)=v:=by simp[Act.eval,h]
theorem lN {w : World} {o : Oper} {a : Act} {K : Act → World → Prop} {Q : Exit → Act → World → Prop} {c0 c1 c2 c3 c4 c5 c6 : Value} (x : Operand) (ho : o.op = .buildSlice 29 1 #[(0, x)]) (hx : a.eval x = .agg #[c0, c1, c2, c3, c4, c5, c6])
  (h:K (a.put o.dst (.slice (some ⟨w.heap.size,0,none⟩) 1 1)) (w.alloc (.cells #[c0,c1,c2,c3,c4,c5,c6] 76))):o.wp Try.prog a w K Q:=by
 unfold Oper.wp execOp;simp only[ho,List.map_toArray,List.map_cons,List.map_nil,hx,Sem.run_bind,FI,Result.andThen_ok,Sem.run_pure];exact h
theorem zF {w : World} {ops : Array Oper} {rest : List Oper} {o : Oper} {a : Act} {Q : Exit → Act → World → Prop} {c0 c1 c2 c3 c4 c5 c6 : Value} (hgd : o.guard = none) (x : Operand) (ho : o.op = .buildSlice 29 1 #[(0, x)]) (hx : a.eval x = .agg #[c0, c1, c2, c3, c4, c5, c6])
  (h:wpList Try.prog ops Q rest (a.put o.dst (.slice (some ⟨w.heap.size,0,none⟩) 1 1)) (w.alloc (.cells #[c0,c1,c2,c3,c4,c5,c6] 76))):wpList Try.prog ops Q (o::rest) a w:=
 wpList_plain hgd fun _ hK=>lN x ho hx (hK _ _ h)
def Mc (w:World) (S:Nat->Prop) (A:Option Addr) (cs:List Value):Prop:=
 cs=[]\/∃b o,A=some ⟨b,o,none⟩/\S b/\b<w.heap.size/\∀(j:Nat) (u:Value),cs[j]? =some u->w.cell? ⟨b,o+j,none⟩=some u
def okS (S:Nat->Prop):Nat->ax->World->Prop
 |0,_,_=>False
 |d+1,.mk op kind A c args vk vb pos a,w=>Mc w S A (args.flatMap ax.cells)/\args.length<=1048576/\vb<18446744073709551616/\∀x∈args,okS S d x w
theorem Mc.rd {w:World} {S:Nat->Prop} {A:Option Addr} {cs:List Value} (h:Mc w S A cs):Rd w w.heap.size A cs:=by
 rcases h with h|⟨b,o,h1,_,h2,h3⟩
 ·exact .inl h
 ·exact .inr ⟨b,o,h1,h2,h3⟩
theorem okS.n {w:World} {S:Nat->Prop}:∀{d:Nat} {n:ax},okS S d n w->yB d n w w.heap.size
 |0,_,h=>h
 |d+1,.mk ..,h=>⟨h.1.rd,h.2.1,h.2.2.1,fun x hx=>(h.2.2.2 x hx).n⟩
theorem Mc.keep {w w':World} {S S':Nat->Prop} {A:Option Addr} {cs:List Value} (h:Mc w S A cs) (hk:∀b,S b->b<w.heap.size->S' b/\b<w'.heap.size/\w'.heap[b]? =w.heap[b]?):Mc w' S' A cs:=by
 rcases h with h|⟨b,o,h1,h0,h2,h3⟩
 ·exact .inl h
 ·obtain⟨k1,k2,k3⟩:=hk b h0 h2;exact .inr ⟨b,o,h1,k1,k2,fun j u hu=>by rw[<-h3 j u hu];simp[World.cell?,k3]⟩
theorem okS.keep {w w':World} {S S':Nat->Prop} (hk:∀b,S b->b<w.heap.size->S' b/\b<w'.heap.size/\w'.heap[b]? =w.heap[b]?):∀{d:Nat} {n:ax},okS S d n w->okS S' d n w'
 |0,_,h=>h
 |d+1,.mk ..,h=>⟨h.1.keep hk,h.2.1,h.2.2.1,fun x hx=>okS.keep hk (h.2.2.2 x hx)⟩
theorem Dz {w:World} {base e size n:Nat} {A:Option Addr} {c:Nat} {xs:List Value} (h:w.ownsRow base e size (.slice A n c) n xs):Mc w (fun b=>base<=b) A xs:=by
 have hr:=bP h;rcases h.2 with⟨h0,hn⟩|⟨g,cap,cur,hv,hb,hh,_⟩
 ·subst hn;exact .inl (List.eq_nil_of_length_eq_zero (by simpa using h.1))
 ·have hA:A=some ⟨g,0,none⟩:=by injection hv
  subst hA;rcases hr with hr|⟨b,o,h1,h2,h3⟩
  ·exact .inl hr
  ·have:g=b:=by injection h1 with h1;injection h1
   subst this;exact .inr ⟨_,_,h1,hb,h2,h3⟩
def OC:Nat->ax->ax->Prop
 |0,_,_=>False
 |d+1,.mk op kind _ _ args vk vb pos a,.mk op' kind' _ _ args' vk' vb' pos' a'=>op=op'/\kind=kind'/\vk=vk'/\vb=vb'/\pos=pos'/\a=a'/\args.length=args'.length/\∀(i:Nat) (x y:ax),args[i]? =some x->args'[i]? =some y->OC d x y
theorem Jw:(Try.prog.info? 76).map (fun i=>(i.zero,i.size,i.bytes))=some (some (.agg #[.int .i64 0,.int .i64 0,.slice none 0 0,.int .i64 0,.int .u64 0,.int .i64 0,.int .i64 0]),7,72):=by kernel_rfl
def Iq (d:Nat) (l:List ax) (w:World) (e:Ending) (w':World):Prop:=
 ∃(A':Option Addr) (c':Nat) (l':List ax),e=.returned (.slice A' l.length c')/\l'.length=l.length/\(∀(i:Nat) (x y:ax),l[i]? =some x->l'[i]? =some y->OC d x y)/\
  w'.ownsRow w.heap.size 76 7 (.slice A' l.length c') l.length (l'.flatMap ax.cells)/\(∀y∈l',okS (fun b=>w.heap.size<=b/\some b≠(Value.slice A' l.length c').ownBlock) d y w')/\Below w.heap.size w w'
inductive T
 |mk (op kind:Int) (args:List T) (vk:Int) (vb:Nat) (pos attr:Int)
def bV:Nat->ax->T
 |0,_=>.mk 0 0 [] 0 0 0 0
 |d+1,.mk op kind A c args vk vb pos a=>.mk op kind (args.map (bV d)) vk vb pos a
theorem FK {w:World} {B:Nat}:∀{d:Nat} {n:ax},yB d n w B->bV (d+1) n=bV d n
 |0,_,h=>h.elim
 |d+1,.mk op kind A c args vk vb pos a,h=>by
  show T.mk op kind (args.map (bV (d+1))) vk vb pos a=T.mk op kind (args.map (bV d)) vk vb pos a
  rw[List.map_congr_left fun x hx=>FK (h.2.2.2 x hx)]
def eX (S:Nat->Prop) (d:Nat) (t:T) (cs:List Value) (w:World):Prop:=∃n:ax,cs=n.cells/\bV d n=t/\okS S d n w
theorem okS.up {w:World} {S:Nat->Prop}:∀{d:Nat} {n:ax},okS S d n w->okS S (d+1) n w
 |0,_,h=>h.elim
 |d+1,.mk ..,h=>⟨h.1,h.2.1,h.2.2.1,fun x hx=>(h.2.2.2 x hx).up⟩
theorem eX.up {S:Nat->Prop} {d:Nat} {t:T} {cs:List Value} {w:World}:eX S d t cs w->eX S (d+1) t cs w:=fun⟨n,h1,h2,h3⟩=>⟨n,h1,(FK h3.n).trans h2,h3.up⟩
theorem eX.keep {S S':Nat->Prop} {d:Nat} {t:T} {cs:List Value} {w w':World} (hk:∀b,S b->b<w.heap.size->S' b/\b<w'.heap.size/\w'.heap[b]? =w.heap[b]?):eX S d t cs w->eX S' d t cs w':=fun⟨n,h1,h2,h3⟩=>⟨n,h1,h2,h3.keep hk⟩
theorem eX.old {S:Nat->Prop} {d:Nat} {t:T} {cs:List Value} {w w':World} (h:eX S d t cs w) (hb:Below w.heap.size w w'):eX S d t cs w':=h.keep fun b hS hlt=>⟨hS,Nat.lt_of_lt_of_le hlt hb.size,hb.block b hlt⟩
theorem eX.seven {S:Nat->Prop} {d:Nat} {t:T} {cs:List Value} {w:World} (h:eX S d t cs w):∃c0 c1 c2 c3 c4 c5 c6,cs=[c0,c1,c2,c3,c4,c5,c6]/\∀u∈cs,u.oneCell'=true:=by
 obtain⟨⟨op,kind,A,c,args,vk,vb,pos,a⟩,rfl,_,_⟩:=h;exact⟨_,_,_,_,_,_,_,rfl,by intro u hu;simp[ax.cells]at hu;rcases hu with rfl|rfl|rfl|rfl|rfl|rfl|rfl<;>rfl⟩
theorem eX.leaf (S:Nat->Prop) (w:World) (op kind vk:Int) (vb:Nat) (pos a:Int) (h:vb<18446744073709551616) (d:Nat):eX S (d+1) (.mk op kind [] vk vb pos a) [.int .i64 op,.int .i64 kind,.slice none 0 0,.int .i64 vk,.int .u64 vb,.int .i64 pos,.int .i64 a] w:=
 ⟨.mk op kind none 0 [] vk vb pos a,rfl,rfl,.inl rfl,Nat.zero_le _,h,fun x hx=>absurd hx (by simp)⟩
end Go.Proofs.Ytbjnhllkdilpfaa
namespace Go.Proofs.Ytbjnhllkdilpfaa
open Go.RowKit
set_option linter.unusedVariables false
section
variable {P:Program} {ops:Array Oper} {Q:Exit->Act->World->Prop}
def xX (W:World) (G:World->Prop) (b:Bool) (w:World):Prop:=if b=true then G w else Below W.heap.size W w
structure Gs (W:World) (G:World->Prop):Prop where
 of:∀w,Below W.heap.size W w->G w
 keep:∀w w',G w->Below w.heap.size w w'->G w'
theorem xX.keep {W w w':World} {G:World->Prop} (hG:Gs W G) {b:Bool} (h:xX W G b w) (hb:Below w.heap.size w w'):xX W G b w':=by
 unfold xX at h⊢;cases b
 ·exact Below.trans h (hb.mono (Below.size h))
 ·exact hG.keep _ _ h hb
abbrev jH (P:Program) (Q:Exit->Act->World->Prop) (ops:Array Oper) (n:Nat) (a0:Act) (W:World) (G:World->Prop) (p:Nat) (R:Nat->Spec) (k:Nat) (l:List Oper):Prop:=
 vP P Q ops n (fun _=>false) a0 p (xX W G) (Spec.dJ ops p R) k l
theorem Gp {id : Nat} {a0 : Act} {W : World} (n p : Nat) (G : World → Prop) (hp : p < n) (hm : P.follows .mixedOrders = true) (R : Nat → Spec) (hf : (fK ops a0.tmps.size && jV ops n && decide (n ≤ ops.size)) = true)
  (hall:jH P Q ops n a0 W G p R 0 (ops.toList.take n))
  (hend:∀(vals:List Value) (w:World),vals.length=n->G w->(∀k v,vals[k]? =some v->Spec.dJ ops p R true k v w)->wpList P ops Q (ops.toList.drop n) (aN (ops.toList.take n) vals a0) w):
  (Code.region id ops true).wp P Q a0 W:=by
 simp only[Bool.and_eq_true,decide_eq_true_eq]at hf;obtain⟨⟨hf,gK⟩,hn⟩:=hf;refine wp_region_any hm ?_;refine zg (n:=n) (p:=p) (Fr:=fun _=>false) (S:=xX W G) (R:=Spec.dJ ops p R) hn hf gK hall ?_ _ _ _ _ (by simp) (by simp) (by intro j _;simp[Array.getD]) ?_
 ·intro a w L hL hi;obtain⟨vals,hl,hv⟩:=qC (ops:=ops) (a:=a) (w:=w) (R:=Spec.dJ ops p R true) n fun k hk=>by have:=hi.got k hk (hL k hk);rw[hL p hp]at this;exact this
  have hto:∀k:Nat,((ops.toList.take n)[k]?).bind (·.dst)=if k<n then(ops[k]?).bind (·.dst)else none:=by
   intro k
   by_cases hk:k<n
   ·rw[if_pos hk,List.getElem?_take_of_lt hk,Array.getElem?_toList]
   ·rw[if_neg hk,List.getElem?_eq_none (by simp;omega)];rfl
  have:a=aN (ops.toList.take n) vals a0:=by
   obtain⟨tm,df⟩:=a
   have h1:tm=(aN (ops.toList.take n) vals a0).tmps:=by
    apply Array.ext_getElem?
    intro d
    by_cases hd:∃k:Nat,k<n/\(ops[k]?).bind (·.dst)=some d
    ·obtain⟨k,hkn,hk⟩:=hd;have hg:vals[k]? =some vals[k]:=List.getElem?_eq_getElem (by omega);have h2:=(hv k _ hg).1;unfold aT at h2;rw[hk]at h2;simp only at h2;rw[h2]
     symm
     refine kY _ _ _ k (by rw[hto,if_pos hkn];exact hk) hg (fun j hj=>?_) (vM hf (i:=k) hk);rw[hto]
     split
     ·exact nY hf (i:=k) (j:=j) hj (d:=d) hk
     ·simp
    ·have hd:∀k:Nat,k<n->(ops[k]?).bind (·.dst)≠some d:=fun k hkn hk=>hd ⟨k,hkn,hk⟩
     rw[gG _ _ _ (fun k=>by
      rw[hto]
      split
      ·rename_i h;exact hd k h
      ·simp)]
     exact hi.old d hd
   have h2:df=(aN (ops.toList.take n) vals a0).defers:=by rw[gW];exact hi.defers
   rw[h1,h2]
  have hlen:(ops.toList.drop n).length=ops.size-n:=by simp
  rw[<-hlen,wpOps_eq_wpList (ops.toList.drop n) n (by intro j;simp[List.getElem?_drop])];rw[this];have hs:=hi.s;rw[hL p hp]at hs;exact hend vals w hl hs (fun k v h=>(hv k v h).2)
 ·refine⟨?_,rfl,rfl,fun _ _=>rfl,?_,?_,?_,?_⟩
  ·simp only[Array.getD];unfold xX;simp;exact Below.drew zR
  ·intro k _ hk;simp[Array.getD]at hk
  ·intro k o _ hk;simp[Array.getD]at hk
  ·intro k _ hk;simp[Array.getD]at hk
  ·intro j k _ _ _ hk;simp[Array.getD]at hk
section
variable {n p:Nat} {a0:Act} {W:World} {G:World->Prop} {R:Nat->Spec} {k:Nat} {o:Oper}
theorem IX {L : Nat → Bool} {a : Act} {w : World} (hi : oP ops n (fun _ => false) a0 p (xX W G) (Spec.dJ ops p R) L a w) (hp : L p = false) (ho : ops[k]? = some o) (hA : ∀ e ∈ o.after, Region.binds .any e = true → L e.on = true) :
  ∀{l:List Nat},(l.all fun j=>decide (j<n)&&waits ops k j)=true->Facts ops (fun k v w=>(R k).holds v w) a w l
 |[],_=>trivial
 |j::l,hl=>by
  simp only[List.all_cons,Bool.and_eq_true,decide_eq_true_eq]at hl;obtain⟨v,h1,h2⟩:=hi.got j hl.1.1 (dH ho hl.1.2 hi.closed hA);rw[hp]at h2;exact⟨⟨v,h1,oh.1 h2⟩,IX hi hp ho hA hl.2⟩
theorem jH.cons {rest : List Oper} (hG : Gs W G) (ho : ops[k]? = some o) (l ds : List Nat) (hkp : (k == p) = false) (op : Oper) (hop : ops[p]? = some op) (hw : waits ops p k = true) (hg : o.guard = none) (hl : (l.all fun j => decide (j < n) && waits ops k j) = true) (hds : ds.all (outer ops) = true)
  (h:∀(K:Act->World->Prop) (a:Act) (w:World),Below W.heap.size W w->dN ops a0 a ds->Facts ops (fun k v w=>(R k).holds v w) a w l->(∀v w',Below w.heap.size w w'->(R k).holds v w'->K (a.put o.dst v) w')->o.wp P a w K Q)
  (hr:jH P Q ops n a0 W G p R (k+1) rest):jH P Q ops n a0 W G p R k (o::rest):=by
 refine⟨fun K L a w hi hLk hA hK=>?_,hr⟩;rw[if_pos (by unfold Region.wanted;rw[hg])]
 have yu:L p=false:=by
  cases hx:L p with
  |false=>rfl
  |true=>
   have:=dH hop hw hi.closed (fun e he hb=>hi.closed p op hop hx e he hb);rw[hLk]at this;cases this
 have hs:=hi.s;rw[yu]at hs hK;rw[hkp]at hK;exact h K a w hs (bM hi.old ds hds) (IX hi yu ho hA hl) (fun v w' h1 h2=>hK v w' h1.size (xX.keep hG hs h1) (fun j u _ _ h=>og h1 h) (oh.2 h2) (fun h=>by cases h))
theorem jH.app {rest : List Oper} (ho : ops[p]? = some o) (l ds : List Nat) (hg : o.guard = none) (hl : (l.all fun j => decide (j < n) && waits ops p j) = true) (hds : ds.all (outer ops) = true)
  (h:∀(K:Act->World->Prop) (a:Act) (w:World),Below W.heap.size W w->dN ops a0 a ds->Facts ops (fun k v w=>(R k).holds v w) a w l->(∀v w',G w'->w.heap.size<=w'.heap.size->(R p).holds v w'->K (a.put o.dst v) w')->o.wp P a w K Q)
  (hr:jH P Q ops n a0 W G p R (p+1) rest):jH P Q ops n a0 W G p R p (o::rest):=by
 refine⟨fun K L a w hi hLk hA hK=>?_,hr⟩;rw[if_pos (by unfold Region.wanted;rw[hg])];have hs:=hi.s;rw[hLk]at hs hK;rw[show(false||(p==p))=true from by simp]at hK
 refine h K a w hs (bM hi.old ds hds) (IX hi hLk ho hA hl) (fun v w' h1 h0 h2=>hK v w' h0 h1 (fun j u hj Ed h=>zh hj (by
  cases Vo:waits ops j p with
  |false=>rfl
  |true=>
   exfalso;cases hoj:ops[j]? with
   |none=>rw[zi hoj]at Vo;cases Vo
   |some oj=>
    have:=dH hoj Vo hi.closed (fun e he hb=>hi.closed j oj hoj Ed e he hb)
    rw[hLk]at this;cases this) h) ?_ (fun h=>by cases h))
 unfold Spec.dJ;cases hR:R p with
 |any=>trivial
 |is x=>rw[hR]at h2;exact h2
 |st q hq=>rw[hR]at h2;exact .inr h2
theorem Ad {L : Nat → Bool} {a : Act} {w : World} (hi : oP ops n (fun _ => false) a0 p (xX W G) (Spec.dJ ops p R) L a w) (ho : ops[k]? = some o) (hA : ∀ e ∈ o.after, Region.binds .any e = true → L e.on = true) :
  ∀{l:List Nat},(l.all fun j=>decide (j<n)&&waits ops k j)=true->lI ops R a l
 |[],_=>trivial
 |j::l,hl=>by
  simp only[List.all_cons,Bool.and_eq_true,decide_eq_true_eq]at hl;obtain⟨v,h1,h2⟩:=hi.got j hl.1.1 (dH ho hl.1.2 hi.closed hA);refine⟨fun X hX=>?_,Ad hi ho hA hl.2⟩;unfold Spec.dJ at h2;rw[hX]at h2;rw[<-show v=X from h2];exact h1
theorem jH.pure {rest : List Oper} (ho : ops[k]? = some o) (l ds : List Nat) (hkp : (k == p) = false) (hg : o.guard = none) (hl : (l.all fun j => decide (j < n) && waits ops k j) = true) (hds : ds.all (outer ops) = true) (X : Value) (hX : R k = .is X)
  (h:∀(K:Act->World->Prop) (a:Act) (w:World),dN ops a0 a ds->lI ops R a l->K (a.put o.dst X) w->o.wp P a w K Q)
  (hr:jH P Q ops n a0 W G p R (k+1) rest):jH P Q ops n a0 W G p R k (o::rest):=by
 refine⟨fun K L a w hi hLk hA hK=>?_,hr⟩;rw[if_pos (by unfold Region.wanted;rw[hg])];rw[hkp,Bool.or_false]at hK;refine h K a w (bM hi.old ds hds) (Ad hi ho hA hl) (hK X w zL hi.s (fun j u _ _ h=>h) ?_ (fun h=>by cases h));unfold Spec.dJ;rw[hX]
theorem jH.read {rest : List Oper} (hG : Gs W G) (ho : ops[k]? = some o) (l ds : List Nat) (hkp : (k == p) = false) (hg : o.guard = none) (hl : (l.all fun j => decide (j < n) && waits ops k j) = true) (hds : ds.all (outer ops) = true) (X : Value) (hX : R k = .is X)
  (h:∀(K:Act->World->Prop) (a:Act) (w:World),G w->dN ops a0 a ds->lI ops R a l->K (a.put o.dst X) w->o.wp P a w K Q)
  (hr:jH P Q ops n a0 W G p R (k+1) rest):jH P Q ops n a0 W G p R k (o::rest):=by
 refine⟨fun K L a w hi hLk hA hK=>?_,hr⟩;rw[if_pos (by unfold Region.wanted;rw[hg])];rw[hkp,Bool.or_false]at hK
 have hs:G w:=by
  have:=hi.s;unfold xX at this
  split at this
  ·exact this
  ·exact hG.of _ this
 refine h K a w hs (bM hi.old ds hds) (Ad hi ho hA hl) (hK X w zL hi.s (fun j u _ _ h=>h) ?_ (fun h=>by cases h));unfold Spec.dJ;rw[hX]
theorem JJ {L : Nat → Bool} {a : Act} {w : World} (hi : oP ops n (fun _ => false) a0 p (xX W G) (Spec.dJ ops p R) L a w) (hp : L p = true) (ho : ops[k]? = some o) (hA : ∀ e ∈ o.after, Region.binds .any e = true → L e.on = true) :
  ∀{l:List Nat},(l.all fun j=>decide (j<n)&&waits ops k j)=true->Facts ops (fun k v w=>Spec.dJ ops p R true k v w) a w l
 |[],_=>trivial
 |j::l,hl=>by
  simp only[List.all_cons,Bool.and_eq_true,decide_eq_true_eq]at hl;obtain⟨v,h1,h2⟩:=hi.got j hl.1.1 (dH ho hl.1.2 hi.closed hA);rw[hp]at h2;exact⟨⟨v,h1,h2⟩,JJ hi hp ho hA hl.2⟩
theorem jH.post {rest : List Oper} (hG : Gs W G) (ho : ops[k]? = some o) (l ds : List Nat) (hkp : (k == p) = false) (hw : waits ops k p = true) (hg : o.guard = none) (hl : (l.all fun j => decide (j < n) && waits ops k j) = true) (hds : ds.all (outer ops) = true)
  (h:∀(K:Act->World->Prop) (a:Act) (w:World),G w->dN ops a0 a ds->Facts ops (fun k v w=>Spec.dJ ops p R true k v w) a w l->(∀v w',Below w.heap.size w w'->(R k).holds v w'->K (a.put o.dst v) w')->o.wp P a w K Q)
  (hr:jH P Q ops n a0 W G p R (k+1) rest):jH P Q ops n a0 W G p R k (o::rest):=by
 refine⟨fun K L a w hi hLk hA hK=>?_,hr⟩;rw[if_pos (by unfold Region.wanted;rw[hg])];have yu:L p=true:=dH ho hw hi.closed hA;have hs:=hi.s;rw[yu]at hs hK;rw[Bool.true_or]at hK;refine h K a w hs (bM hi.old ds hds) (JJ hi yu ho hA hl) (fun v w' h1 h2=>hK v w' h1.size (hG.keep _ _ hs h1) (fun j u _ _ h=>og h1 h) ?_ (fun h=>by cases h));unfold Spec.dJ;cases hR:R k with
 |any=>trivial
 |is x=>rw[hR]at h2;exact h2
 |st q hq=>rw[hR]at h2;exact .inr h2
theorem jH.nil:jH P Q ops n a0 W G p R k []:=trivial
end
end
end Go.Proofs.Ytbjnhllkdilpfaa
