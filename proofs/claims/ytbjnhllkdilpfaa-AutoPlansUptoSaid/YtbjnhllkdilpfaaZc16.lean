/- Part 16 of the proof. No conditions. -/
import Derived.Test.YtbjnhllkdilpfaaZc15
namespace Go.Proofs.Ytbjnhllkdilpfaa
open Go.RowKit
set_option maxRecDepth 100000
set_option maxHeartbeats 16000000
set_option linter.unusedVariables false
set_option linter.unusedSimpArgs false
def yI (B:Nat) (w:World) (v:Value) (es:List ax):Prop:=∃css:List (List Value),w.ownsRow B 118 7 v css.length css.flatten/\jq (fun g=>B<=g) w es css
theorem dh.set6 {b:Nat} {t:TypeId} {u u2:Value} {rr:List Value} {L:List az} {LA:Option Addr} {Lc:Nat} {s:PS} {w:World} (h:dh b t (u::u2::rr) L LA Lc s w) (v:Value):dh b t (u::v::rr) L LA Lc s (w.setCell ⟨b,6,none⟩ v):=
 ⟨by simpa[bZ]using h.bk.put 6 v,nJ h.rd _ _⟩
theorem dh.c6 {b:Nat} {t:TypeId} {u u2:Value} {rr:List Value} {L:List az} {LA:Option Addr} {Lc:Nat} {s:PS} {w:World} (h:dh b t (u::u2::rr) L LA Lc s w):w.cell? ⟨b,6,none⟩=some u2:=by rw[h.bk.cell 6];simp[bZ]
theorem kZ.YC {P:Nat->Prop} {w:World}:∀{e:ax} {cs:List Value},kZ P w e cs->∃(z0 z2 z3 z6:Int) (A:Option Addr) (k c:Nat) (S1 S2:ByteArray),cs=[.int .i64 z0,.slice A k c,.int .i64 z2,.int .i64 z3,.string S1,.string S2,.int .i64 z6]
 |.leaf op n sc nm a p,cs,h=>by
  obtain rfl:cs=gK op n sc nm a p:=h;exact⟨_,_,_,_,_,_,_,_,_,rfl⟩
 |.un op x p,cs,h=>by
  obtain⟨g,xs,rfl,_⟩:=h;exact⟨_,_,_,_,_,_,_,_,_,rfl⟩
 |.bin op x y p,cs,h=>by
  obtain⟨g,xs,ys,rfl,_⟩:=h;exact⟨_,_,_,_,_,_,_,_,_,rfl⟩
def Q5 (b B:Nat) (L:List az) (LA:Option Addr) (Lc:Nat) (v0:Value) (rr:List Value) (s:PS) (w:World) (e:Ending) (w':World):Prop:=
 e=.returned (.tuple #[])/\w.grownBy w' (some b)/\∃v,dh b 98 (v0::v::rr) L LA Lc (jJ L s).2 w'/\yI B w' v (jJ L s).1
structure WhI (b B g2:Nat) (rest:List Value) (L:List az) (LA:Option Addr) (Lc:Nat) (w:World) (x:PS) (e:ax) (cs:List Value) (W:World):Prop where
 st:dh b 98 rest L LA Lc x W
 gw:w.grownBy W (some b)
 k2:Bk W g2 118 cs.toArray
 ok:kZ (fun g=>B<=g) W e cs
structure WhJ (b g2:Nat) (rest:List Value) (L:List az) (LA:Option Addr) (Lc:Nat) (w:World) (x:PS) (e:ax) (cs:List Value) (ds:Array Value) (W:World):Prop where
 st:dh b 98 rest L LA Lc x W
 gw:w.grownBy W (some b)
 k2:Bk W g2 118 ds
 ok:kZ (fun g=>g2+1<=g) W e cs
theorem WhJ.put {b g2:Nat} {rest:List Value} {L:List az} {LA:Option Addr} {Lc:Nat} {w:World} {x:PS} {e:ax} {cs:List Value} {ds:Array Value} {W:World} (h:WhJ b g2 rest L LA Lc w x e cs ds W) (hb:b<g2) (hw:w.heap.size<=g2) (o:Nat) (v:Value):WhJ b g2 rest L LA Lc w x e cs (ds.setIfInBounds o v) (W.setCell ⟨g2,o,none⟩ v):=
 ⟨h.st.far hb v,vT h.gw hw,h.k2.put o v,h.ok.set (by omega)⟩
section
variable (b B:Nat) (L:List az) (LA:Option Addr) (Lc:Nat) (s:PS) (w:World) (v0:Value) (rr:List Value)
theorem Og (h : dh b 98 (v0 :: .slice none 0 0 :: rr) L LA Lc s w) (he : dK L) (hi : gG L s) (hL : L.length ≤ 4001) (hbB : b < B) (hBw : B ≤ w.heap.size) :
  Calls Try.prog 40 #[.pointer (some ⟨b,0,none⟩)] w (Q5 b B L LA Lc v0 rr s w):=by
 have HIS:Hid (∀(x:PS) (W:World) (S:ByteArray) (v:Str) (rest:List Value),S.toList=v->gG L x->dh b 98 rest L LA Lc x W->Calls Try.prog 39 #[.pointer (some ⟨b,0,none⟩),.string S] W fun r w'=>r=.returned (.bool (eX L x v))/\Below W.heap.size W w'):=zH fun x W S v rest hv ho h=>by
  have:=lu b _ rest L LA Lc x W S h ho.lt hL
  rwa [hv]at this
 have hwh:(⟨#[87,72,69,82,69]⟩:ByteArray).toList=uG:=by rw[ByteArray.toList_eq];rfl
 unfold Q5;obtain⟨RES,hres⟩:∃R,jJ L s=R:=⟨_,rfl⟩
 rw[hres];unfold jJ at hres;have aG:=zH hres;have HS:=zH h;have hbl:=h.bk.lt;have c3:=h.c3;clear hres h
 go_enter Try.func40,Try.ntmps40
 obtain⟨non,hnon⟩:∃z,(!decide (s.err=0)|| !eX L s uG)=z:=⟨_,rfl⟩
 have HNO:=zH hnon;clear hnon;go_upto_region 0 with fail
 go_cut[18] (fun v wx=>v=.bool non/\Hid (dh b 98 (v0::.slice none 0 0::rr) L LA Lc s wx/\Below w.heap.size w wx))
 case first=>
  as_aux_lemma=>
  by_cases h0:s.err=0
  case neg=>
   have iV:((s.err:Int) !=0)=true:=by rw[bne_iff_ne];omega
   have hst:non=true:=by rw[<-HNO.out];simp[h0]
   subst hst;clear h0;go_wp2_with fail
   go_meet
   exact⟨rfl,zH ⟨HS.out,Below.refl _ _⟩⟩
  case pos=>
   have iV:((s.err:Int) !=0)=false:=by rw[bne_eq_false_iff_eq];omega
   obtain⟨bi,hbi⟩:∃z,eX L s uG=z:=⟨_,rfl⟩
   have hst:non= !bi:=by rw[<-HNO.out,hbi];simp[h0]
   have Jc:=zH hbi;subst hst;clear h0 hbi;go_wp2_with fail
   refine(HIS.out s _ _ _ _ hwh hi HS.out).mono ?_;rintro r w2 ⟨rfl,hb2⟩;rw[Jc.out];have HM:=zH (And.intro (HS.out.old hb2) hb2);clear hb2;go_wp2_with fail
   go_meet
   exact⟨rfl,HM⟩
 case rest=>
 obtain⟨rfl,HM⟩:=hcut;clear HS c3;cases non
 case true=>
  as_aux_lemma=>
  have hR:=aG.out;rw[if_pos (by have:=HNO.out;simpa using this)]at hR;subst hR;clear aG HNO;go_wp2_with fail
  (try simp only[Exit.inBlock,Exit.then]);refine bodyPost_ret (v:=.tuple #[]) (by simp[results,Try.results40,go_sem]) rfl ?_
  exact⟨rfl,below_grown HM.out.2 _,_,HM.out.1,[],World.ownsRow_nil _ _ _ _,trivial⟩
 case false=>
  as_aux_lemma=>
  have hno:=HNO.out;have hR:=aG.out;rw[if_neg (by simpa using hno)]at hR
  have hw:eX L s uG=true:=by
   have:s.err=0/\eX L s uG=true:=by simpa using hno
   exact this.2
  have h0:s.err=0:=by
   have:s.err=0/\eX L s uG=true:=by simpa using hno
   exact this.1
  have g1:=bf.next he hi (bn hw);have hok1:=g1.ok;have hfew:=Ha he (s.i+1) hok1.lt
  have mV:Hid (dh b 98 (v0::.slice none 0 0::rr) L LA Lc (aI s) (wc.setCell ⟨b,1,none⟩ (.int .i64 ((s.i:Int)+1)))/\w.grownBy (wc.setCell ⟨b,1,none⟩ (.int .i64 ((s.i:Int)+1))) (some b)):=zH (by
   have hn:=step_next b _ _ L LA Lc s wc HM.out.1
   exact⟨hn.st,(below_grown HM.out.2 _).trans hn.grown⟩)
  obtain⟨W1,hW1⟩:∃z,wc.setCell ⟨b,1,none⟩ (.int .i64 ((s.i:Int)+1))=z:=⟨_,rfl⟩
  have HW1:=zH hW1;rw[hW1]at mV
  have vg:Hid (∀W:World,Below W1.heap.size W1 W->Calls Try.prog 55 #[.slice LA L.length Lc,.int .i64 ((s.i:Int)+1)] W (MH L (s.i+1) W)):=zH fun W hb=>by
   have hlt:=mV.out.1.bk.lt;have hrd:=mV.out.1.rd.below (hb.mono (Nat.le_of_lt hlt));exact QS L LA Lc (s.i+1) W (hrd.more (by have h2:=hb.size;omega)) he hok1.lt hL
  unfold MH at vg;generalize lY L (s.i+1)=RT at *;obtain⟨x,nx,ap,er⟩:=RT;simp only at hR hfew vg;have kV:=zH hR;have Vq:=zH hfew;have hi1:s.i<=4001:=by have:=hi.lt;omega
  have d1:=HM.out.1.c1;have f1:=HM.out.1.fr 1;clear HNO aG hno hR hw hfew g1 hW1 h0;go_upto_region 2 with fail
  rw[HW1.out];clear d1 f1 HW1 HM;have st1:=mV.out.1;have c0:=st1.c0;have c1:W1.cell? ⟨b,1,none⟩=some (.int .i64 ((s.i:Int)+1)):=st1.c1;have hlt1:=st1.bk.lt;have HK:Hid (∀w',Below W1.heap.size W1 w'->Below W1.heap.size W1 w'/\w'.cell? ⟨b,0,none⟩=some (.slice LA L.length Lc)/\w'.cell? ⟨b,1,none⟩=some (.int .i64 ((s.i:Int)+1))):=zH fun w' hb=>⟨hb,(aT hb b 0 hlt1).trans c0,(aT hb b 1 hlt1).trans c1⟩
  have hB1:B<=W1.heap.size:=by have:=mV.out.2.size;omega
  clear st1
  go_cut[2,3,4,5] (fun v2 v3 v4 v5 wx=>∃(g2:Nat) (cs:List Value),v2=.pointer (some ⟨g2,0,none⟩)/\v3=.int .i64 nx/\v4=.int .i64 ap/\v5=.int .i64 er/\Hid (B<=g2/\WhI b B g2 (v0::.slice none 0 0::rr) L LA Lc w (aI s) x cs wx))
  case first=>
   go_region_held3(fun w'=>Below W1.heap.size W1 w'/\w'.cell? ⟨b,0,none⟩=some (.slice LA L.length Lc)/\w'.cell? ⟨b,1,none⟩=some (.int .i64 ((s.i:Int)+1)))
    (exact HK.out _ (by repeat(first|with_reducible refine Below.setCell ?_ (by simp;try omega) _|with_reducible assumption|with_reducible exact Below.refl _ _|with_reducible refine Below.drew ?_|with_reducible refine Below.alloc ?_ (by first|exact Nat.le_refl _|exact Below.size (by assumption)) _)))
    (first|(go_at_call 55;refine(vg.out _ (by first|assumption|exact zR.drew|exact(zR.alloc zL _).drew)).mono ?_;rintro e w3 ⟨cs,rfl,hok,hb3⟩;have hb4:Below W1.heap.size W1 w3:=(by apply PD (hb:=hb3);assumption);obtain⟨y0,y2,y3,y6,yA,yk,yc,y4,y5,rfl⟩:=hok.YC;(first|(have kz:=Bk.old (show Bk ((W1.alloc (.cells #[.int .i64 0,.slice none 0 0,.int .i64 0,.int .i64 0,.string ⟨#[]⟩,.string ⟨#[]⟩,.int .i64 0] 118)).drew) W1.heap.size 118 _ from(Bk.new _ _ _).drew) hb3;obtain⟨z0,z1,z2,z3,z4,z5,z6⟩:=zc7 kz;have fv0:=kz.frozen 0;have fv1:=kz.frozen 1;have fv2:=kz.frozen 2;have fv3:=kz.frozen 3;have fv4:=kz.frozen 4;have fv5:=kz.frozen 5;have fv6:=kz.frozen 6)|skip)))
   ·as_aux_lemma=>
    have jc:Below w3.heap.size w3 (w3.alloc (.cells #[.int .i64 y0,.slice yA yk yc,.int .i64 y2,.int .i64 y3,.string y4,.string y5,.int .i64 y6] 118)):=zR.alloc zL _
    have HJ:Hid (B<=w3.heap.size/\WhI b B w3.heap.size (v0::.slice none 0 0::rr) L LA Lc w (aI s) x [.int .i64 y0,.slice yA yk yc,.int .i64 y2,.int .i64 y3,.string y4,.string y5,.int .i64 y6] (w3.alloc (.cells #[.int .i64 y0,.slice yA yk yc,.int .i64 y2,.int .i64 y3,.string y4,.string y5,.int .i64 y6] 118))):=
     zH ⟨by have:=hb4.size;omega,(mV.out.1.old hb4).old jc,(mV.out.2.trans (below_grown hb4 _)).trans (below_grown jc _),Bk.new w3 _ _,(hok.old jc).more (by simp;omega)⟩
    clear hok hb4 hb3 HK vg HIS kV jc;go_wp2_with fail
    go_meet
    exact⟨_,_,rfl,rfl,rfl,rfl,HJ⟩
   ·as_aux_lemma=>
    have J0:WhJ b W1.heap.size (v0::.slice none 0 0::rr) L LA Lc w (aI s) x [.int .i64 y0,.slice yA yk yc,.int .i64 y2,.int .i64 y3,.string y4,.string y5,.int .i64 y6] #[.int .i64 0,.slice none 0 0,.int .i64 0,.int .i64 0,.string ⟨#[]⟩,.string ⟨#[]⟩,.int .i64 0] w3:=
     ⟨mV.out.1.old hb4,mV.out.2.trans (below_grown hb4 _),kz,hok.more (by simp)⟩
    have J7:=((((((J0.put hlt1 mV.out.2.size 0 (.int .i64 y0)).put hlt1 mV.out.2.size 1 (.slice yA yk yc)).put hlt1 mV.out.2.size 2 (.int .i64 y2)).put hlt1 mV.out.2.size 3 (.int .i64 y3)).put hlt1 mV.out.2.size 4 (.string y4)).put hlt1 mV.out.2.size 5 (.string y5)).put hlt1 mV.out.2.size 6 (.int .i64 y6);have HJ:Hid (B<=W1.heap.size/\WhI b B W1.heap.size (v0::.slice none 0 0::rr) L LA Lc w (aI s) x [.int .i64 y0,.slice yA yk yc,.int .i64 y2,.int .i64 y3,.string y4,.string y5,.int .i64 y6] _):=zH ⟨hB1,J7.st,J7.gw,by simpa using J7.k2,J7.ok.more (by omega)⟩;clear J0 J7 kz hok hb4 hb3 HK vg HIS kV;go_wp2_with fail
    go_meet
    exact⟨_,_,rfl,rfl,rfl,rfl,HJ⟩
  case rest=>
  obtain⟨g2,cs,rfl,rfl,rfl,rfl,HI⟩:=hcut;clear c0 c1 HK vg HIS;have hB2:=HI.out.1;have HI:=zH HI.out.2
  by_cases her:er=0
  case neg=>
   as_aux_lemma=>
   have iV:((er:Int) !=0)=true:=by rw[bne_iff_ne];omega
   have hR:=kV.out;rw[if_pos her]at hR;subst hR;have e3:=HI.out.st.c3;have f3:=HI.out.st.fr 3;have s3:=HI.out.st.set3 er;have f4:=s3.fr 4;have e4:=s3.c4;have s4:=s3.set4 ap;have HF:=zH (And.intro s4 (bF (o:=4) (v:=.int .i64 ap) (bF (o:=3) (v:=.int .i64 er) HI.out.gw)));clear her kV s3 s4 HI Vq;go_wp2_with fail
   (try simp only[Exit.inBlock,Exit.then]);refine bodyPost_ret (v:=.tuple #[]) (by simp[results,Try.results40,go_sem]) rfl ?_
   exact⟨rfl,HF.out.2,_,HF.out.1,[],World.ownsRow_nil _ _ _ _,trivial⟩
  case pos=>
   as_aux_lemma=>
   have iV:((er:Int) !=0)=false:=by rw[bne_eq_false_iff_eq];omega
   have hR:=kV.out;rw[if_neg (by omega)]at hR;have aG:=zH hR;have e1:=HI.out.st.c1;have f1:=HI.out.st.fr 1;have s1:=HI.out.st.set1 nx;obtain⟨y0,y1,y2,y3,y4,y5,y6,rfl,hone⟩:=HI.out.ok.seven
   have V1:WhI b B g2 (v0::.slice none 0 0::rr) L LA Lc w ⟨nx,s.opn,s.err,s.pos⟩ x [y0,y1,y2,y3,y4,y5,y6] (wc.setCell ⟨b,1,none⟩ (.int .i64 nx)):=
    ⟨s1,bF HI.out.gw,HI.out.k2.far (p:=⟨b,1,none⟩) (by show g2≠b;omega) _,HI.out.ok.set hbB⟩
   have yF:=zH V1;clear s1 kV hR her V1 HI;go_upto_region 6 with fail
   clear e1 f1;generalize wc.setCell ⟨b,1,none⟩ (.int .i64 nx)=W3 at *;have V:=yF.out;obtain⟨q0,q1,q2,q3,q4,q5,q6⟩:=zc7 V.k2;have HFL:=zH (AX (P:=fun g=>B<=g/\g<W3.heap.size) x [y0,y1,y2,y3,y4,y5,y6] W3 (fun q hq=>hq.2) (V.ok.keep fun g hB hg=>⟨⟨hB,hg⟩,rfl⟩) Vq.out.2.1 (by have:=Vq.out.1;omega));clear V hone;go_wp2_with fail
   refine HFL.out.mono ?_;rintro r w4 ⟨v,css,rfl,hown,hfl,hb4⟩;have V4:dh b 98 (v0::.slice none 0 0::rr) L LA Lc ⟨nx,s.opn,s.err,s.pos⟩ w4:=yF.out.st.old hb4;have d6:=V4.c6;have f6:=V4.fr 6;have s6:=V4.set6 v;have jK:w4.grownBy (w4.setCell ⟨b,6,none⟩ v) (some b):=bF (World.grownBy.refl _ _);have hlen:=hfl.len;have hB3:B<=W3.heap.size:=by have:=yF.out.gw.size;omega
   have HF:Hid (dh b 98 (v0::v::rr) L LA Lc ⟨nx,s.opn,s.err,s.pos⟩ (w4.setCell ⟨b,6,none⟩ v)/\w.grownBy (w4.setCell ⟨b,6,none⟩ v) (some b)/\yI B (w4.setCell ⟨b,6,none⟩ v) v (jI x)):=zH
    ⟨s6,(yF.out.gw.trans (below_grown hb4 _)).trans jK,css,fV (di hown hB3) jK hbB,hfl.keep fun g hP hg=>⟨hP.1,(jK.block g (by have:=hb4.size;omega) (aA (by have:=hP.1;omega))).trans (hb4.block g hP.2)⟩⟩
   obtain⟨vA,vc,hv,-⟩:=bg hown;subst hv;clear hown hfl hb4 V4 s6 jK hlen yF HFL q0 q1 q2 q3 q4 q5 q6 Vq;go_wp2_with fail
   first|go_end0|refine bodyPost_end (v:=.tuple #[]) (by simp[results,Try.results40,go_sem]) rfl ?_
   have hR:=aG.out;subst hR;exact⟨rfl,HF.out.2.1,_,HF.out.1,HF.out.2.2⟩
end
end Go.Proofs.Ytbjnhllkdilpfaa
