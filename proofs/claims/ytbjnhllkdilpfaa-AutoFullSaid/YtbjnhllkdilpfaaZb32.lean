/- Part 32 of the proof. No conditions. -/
import Derived.Test.YtbjnhllkdilpfaaZb20
namespace Go.Proofs.Ytbjnhllkdilpfaa
open Go.RowKit
set_option linter.unusedSimpArgs false
set_option linter.unusedVariables false
set_option maxHeartbeats 16000000
set_option maxRecDepth 100000
theorem zAd:(Try.prog.info? 80).map (fun i=>(i.zero,i.size,i.bytes))=some (some (.agg #[.slice none 0 0,.slice none 0 0,.int .i64 0,.int .i64 0,.string ⟨#[]⟩,.int .i64 0]),6,88):=by kernel_rfl
theorem lS (w:World):(sizeOf 80).run Try.prog w=.ok 6 w:=by
 obtain⟨i,hi,h0,h1,h2⟩:=info_parts zAd;simp[sizeOf,typeInfo,hi,h1]
theorem wH {L:List aA} {w:Str} {s:PS} (h:s.err≠0):ay L w s=s:=by unfold ay;rw[if_pos h]
theorem F6 {L:List aA} {w:Str} {s:PS} (h:s.err≠0\/eQ L s w=false):(ay L w s).err≠0:=by
 by_cases h0:s.err≠0
 ·rw[wH h0];exact h0
 ·unfold ay;rw[if_neg h0,if_neg (by rw[h.resolve_left h0];decide)];exact jD (by decide)
theorem F7 (L:List aA) (s:PS):(eG L 4 s).2.err≠0:=by
 rw[sK]
 have h1:(ay L mV (if s.err=0/\eQ L s mV=true/\(4:Nat)=4 then aW L 2 s else s)).err≠0:=by
  by_cases hc:s.err=0/\eQ L s mV=true/\(4:Nat)=4
  ·rw[if_pos hc];exact F6 (.inl (jD (by decide)))
  ·rw[if_neg hc];refine F6 ?_
   by_cases h0:s.err=0
   ·right
    exact Bool.eq_false_iff.2 fun h=>hc ⟨h0,h,rfl⟩
   ·exact .inl h0
 generalize ay L mV (if s.err=0/\eQ L s mV=true/\(4:Nat)=4 then aW L 2 s else s)=s2 at *;rw[wH h1,vV,if_pos h1,wH h1];exact h1
theorem uH (L:List aA) (k:Nat) (b:List (List bu)) (s:PS):jJ L (k+1) b s=if s.err≠0\/eQ L s [124]=false then(b,s)else jJ L k (b++[(eG L b.length (aO s)).1]) (eG L b.length (aO s)).2:=rfl
theorem xq {L:List aA} (he:dL L):∀(k:Nat) (b:List (List bu)) (s:PS),gm L s->bn L s (jJ L k b s).2
 |0,b,s,h=>bn.refl h
 |k+1,b,s,h=>by
  rw[uH]
  split
  ·exact bn.refl h
  ·rename_i hx
   simp only[not_or,Bool.not_eq_false]at hx;have g:=bn.next he h (bG hx.2);have g2:=g.trans (bn.branch he g.ok b.length);exact g2.trans (xq he k _ _ g2.ok)
theorem bn.WO {L:List aA} {s:PS} (he:dL L) (h:gm L s):bn L s (jB L s).2/\aX 0 (jB L s).1<=1+2*L.length:=by
 unfold jB
 split
 ·exact⟨bn.refl h,Nat.zero_le _⟩
 ·rename_i hx
  simp only[not_or,Bool.not_eq_false]at hx;have g:=bn.next he h (bG hx.2);have hf:=EW he (s.i+1) g.ok.lt;have g1:=g.ok.opn;have g2:=g.ok.lt;generalize lD L (s.i+1)=r at *;obtain⟨x,nx,ap,er⟩:=r;simp only at *
  split
  ·exact⟨⟨⟨g2,g1⟩,Nat.le_succ _,rfl⟩,Nat.zero_le _⟩
  ·rename_i he
   have h3:=hf.2.2 (by omega);have h4:=h.opn;refine⟨⟨⟨h3.2,by show s.opn<=nx;omega⟩,by show s.i<=nx;omega,rfl⟩,?_⟩;have:=sN x 0;simp only[Nat.lt_irrefl,if_false]at this;exact Nat.le_trans this hf.1
theorem bn.tail {L:List aA} {s:PS} (he:dL L) (h:gm L s):bn L s (nD L s).2:=by
 rw[Fa];have g1:=bn.need he jf h;have g2:=g1.trans (zt he nV 0 0 _ g1.ok);generalize fJ L 0 nV (0,ay L jf s)=r at *;have g3:=bn.tl4 he r g2;have g6:=bn.tl6 (bn.tl5 g3)
 have hk:(pX L (lK L (E5 L r))).err=0->(bf L (pX L (lK L (E5 L r)))).kind≠0:=fun h0=>by
  have:=(Fb h0).1;omega
 generalize pX L (lK L (E5 L r))=s6 at *;unfold tailE
 split
 ·exact g6
 ·rename_i h0
  have g7:=g6.trans (bn.next he g6.ok (hk (by omega)))
  split
  ·rename_i hp
   have g8:=g7.trans (bn.next he g7.ok (bG hp));have g9:=g8.trans (bn.need he TJ g8.ok);exact g9.trans (bn.Js he g9.ok)
  ·exact g7
def IG (bs:List (List bu)) (wh:List au) (q:Nat×Nat×Str×Nat) (s:PS):bU×Nat×Nat:=
 if s.err≠0 then(vH,s.pos,s.err)
 else if 200<iw ⟨bs,wh,q.1,q.2.1,q.2.2.1,q.2.2.2⟩then(vH,0,2)
 else(⟨bs,wh,q.1,q.2.1,q.2.2.1,q.2.2.2⟩,0,0)
def WQ (L:List aA) (s:PS):PS:=if s.err=0/\(bf L s).kind≠0 then aW L 13 s else s
def KW (L:List aA):List (List bu)×PS:=jJ L (L.length+1) [(eG L 0 (ay L nC ⟨0,0,0,0⟩)).1] (eG L 0 (ay L nC ⟨0,0,0,0⟩)).2
theorem KX (L:List aA):Ha L=IG (KW L).1 (jB L (KW L).2).1 (nD L (jB L (KW L).2).2).1 (WQ L (nD L (jB L (KW L).2).2).2):=by kernel_rfl
structure Bl (b gr:Nat) (L:List aA) (LA:Option Addr) (Lc:Nat) (w:World) (x:PS) (bv wv:Value) (q:bU) (W:World):Prop where
 st:di b 98 (q.cells bv wv) L LA Lc x W
 kr:Bk W gr 80 #[.slice none 0 0,.slice none 0 0,.int .i64 0,.int .i64 0,.string ⟨#[]⟩,.int .i64 0]
 hb:Below w.heap.size w W
 br:jK (b+1) W bv q.branches
 wh:wZ (b+1) W wv q.cond
theorem wZ.old {B:Nat} {w w':World} {v:Value} {es:List au} (h:wZ B w v es) (hb:Below w.heap.size w w'):wZ B w' v es:=by
 obtain⟨css,h1,h2⟩:=h;exact⟨css,aP h1 hb,h2.keep fun g hP hg=>⟨hP,hb.block g hg⟩⟩
theorem wZ.grown {b B:Nat} {w w':World} {v:Value} {es:List au} (h:wZ B w v es) (hg:w.grownBy w' (some b)) (hb:b<B):wZ B w' v es:=by
 obtain⟨css,h1,h2⟩:=h;exact⟨css,fP h1 hg hb,h2.keep fun g hP hlt=>⟨hP,hg.block g hlt (aC (by omega))⟩⟩
theorem wZ.nil (B:Nat) (w:World):wZ B w (.slice none 0 0) []:=⟨[],World.ownsRow_nil _ _ _ _,trivial⟩
theorem jK.nil (B:Nat) (w:World):jK B w (.slice none 0 0) []:=⟨[],World.ownsRow_nil _ _ _ _,trivial⟩
section
variable {b gr:Nat} {L:List aA} {LA:Option Addr} {Lc:Nat} {w W W':World} {x y:PS} {bv wv:Value} {q:bU}
theorem Bl.old (h:Bl b gr L LA Lc w x bv wv q W) (hb:Below W.heap.size W W'):Bl b gr L LA Lc w x bv wv q W':=
 ⟨h.st.old hb,h.kr.old hb,h.hb.trans (hb.mono h.hb.size),h.br.old hb,h.wh.old hb⟩
theorem Bl.grow (h:Bl b gr L LA Lc w x bv wv q W) (hgb:gr<b) (hw:w.heap.size<=b) (hst:di b 98 (q.cells bv wv) L LA Lc y W') (hg:W.grownBy W' (some b)):Bl b gr L LA Lc w y bv wv q W':=
 ⟨hst,h.kr.grown hg (aC (by omega)),h.hb.trans ((pW hg (Nat.le_of_lt h.st.bk.lt)).mono hw),h.br.grown hg (by omega),h.wh.grown hg (by omega)⟩
theorem Bl.next (h:Bl b gr L LA Lc w x bv wv q W) (hgb:gr<b) (hw:w.heap.size<=b):Bl b gr L LA Lc w (aO x) bv wv q (W.setCell ⟨b,1,none⟩ (.int .i64 ((x.i:Int)+1))):=
 have hn:=step_next b _ _ L LA Lc x W h.st
 h.grow hgb hw hn.st hn.grown
end
def DU (s:Str) (w:World) (e:Ending) (w':World):Prop:=
 ∃(B:Nat) (cs:List Value),e=.returned (.tuple #[.agg cs.toArray,.int .i64 ((kJ s).2.1:Nat),.int .i64 ((kJ s).2.2:Nat)])/\w.heap.size<=B/\QV B w' (kJ s).1 cs/\Below w.heap.size w w'
def OQ (b gr:Nat) (s6:PS):List Spec:=[.is (.agg #[.slice none 0 0,.slice none 0 0,.int .i64 0,.int .i64 0,.string ⟨#[]⟩,.int .i64 0]),
 .is (.pointer (some ⟨b,0,none⟩)),
 .is (.pointer (some ⟨b,0,none⟩)),
 .is (.pointer (some ⟨b,0,none⟩)),
 .is (.pointer (some ⟨b,4,none⟩)),
 .is (.int .i64 (s6.pos:Nat)),
 .is (.pointer (some ⟨b,0,none⟩)),
 .is (.pointer (some ⟨b,0,none⟩)),
 .is (.pointer (some ⟨b,0,none⟩)),
 .is (.pointer (some ⟨b,3,none⟩)),
 .is (.int .i64 (s6.err:Nat)),
 .st (fun v W=>Bk W gr 80 #[.slice none 0 0,.slice none 0 0,.int .i64 0,.int .i64 0,.string ⟨#[]⟩,.int .i64 0]) (fun v w w2 hb h=>h.old hb),
 .is (.int .i64 (s6.pos:Nat)),
 .is (.int .i64 (s6.err:Nat))]
theorem parse_any (s:ByteArray) (w:World):Calls Try.prog 33 #[.string s] w (DU s.toList w):=by
 have Qp:Hid (∀W:World,Calls Try.prog 36 #[.string s] W (Ho (jY s.toList) W)):=zH fun W=>Nh s W
 obtain⟨RES,hres⟩:∃R,kJ s.toList=R:=⟨_,rfl⟩
 have hok:=NZ s.toList;have hp:kJ s.toList=if(jY s.toList).2.2≠0 then(vH,(jY s.toList).2.1,(jY s.toList).2.2)else Ha (jY s.toList).1:=rfl
 unfold DU;rw[hres]at hp⊢;unfold Ho at Qp;generalize jY s.toList=SR at *;obtain⟨L,ap,er⟩:=SR;simp only at Qp hp hok;have HP:=zH hp;have vw:=zH hok;clear hres hp hok
 go_enter Try.func33,Try.ntmps33
 have k0:=Bk.new w 80 #[.slice none 0 0,.slice none 0 0,.int .i64 0,.int .i64 0,.string ⟨#[]⟩,.int .i64 0];have hb0:Below w.heap.size w (w.alloc (.cells #[.slice none 0 0,.slice none 0 0,.int .i64 0,.int .i64 0,.string ⟨#[]⟩,.int .i64 0] 80)):=zR.alloc zL _;go_upto_region 1 with fail
 generalize w.alloc (.cells #[.slice none 0 0,.slice none 0 0,.int .i64 0,.int .i64 0,.string ⟨#[]⟩,.int .i64 0] 80)=W0 at *;go_wp2_with fail
 refine(Qp.out _).mono ?_;rintro r w1 ⟨LA,Lc,rfl,hrd,hb1⟩;have vS:=zH hrd;have HB1:=zH (hb0.trans (hb1.mono hb0.size));have Ef:=zH (k0.old hb1);have hk1:=(k0.old hb1).lt;clear Qp hrd hb0 hb1 k0
 by_cases her:er=0
 case neg=>
  as_aux_lemma=>
  have iQ:((er:Int) !=0)=true:=by rw[bne_iff_ne];omega
  have hR:=HP.out;rw[if_pos her]at hR;subst hR;clear HP vw her;go_wp2_with (first|(refine ae lS rfl _ _ rfl rfl [.slice none 0 0,.slice none 0 0,.int .i64 0,.int .i64 0,.string ⟨#[]⟩,.int .i64 0] rfl Ef.out rfl rfl rfl ?_;intro w9 p9))
  obtain⟨u0,u1,u2,u3,u4,u5⟩:=zc6 p9.bk;have dZ:=p9.below _ _ HB1.out zL;refine bodyPost_ret (v:=.tuple #[.agg #[.slice none 0 0,.slice none 0 0,.int .i64 0,.int .i64 0,.string ⟨#[]⟩,.int .i64 0],.int .i64 (ap:Nat),.int .i64 (er:Nat)]) (by simp[results,Try.results33,go_sem,u0,u1,u2,u3,u4,u5]) rfl ?_;exact⟨w.heap.size,_,rfl,Nat.le_refl _,⟨_,_,rfl,jK.nil _ _,wZ.nil _ _⟩,dZ⟩
 case pos=>
 have iQ:((er:Int) !=0)=false:=by rw[bne_eq_false_iff_eq];omega
 have hR:=HP.out;rw[if_neg (by omega),KX]at hR;obtain⟨he,hL⟩:=vw.out her;have aK:=zH hR;clear HP vw hR her;go_upto_region 5 with fail
 have V5:Bl w1.heap.size w.heap.size L LA Lc w ⟨0,0,0,0⟩ (.slice none 0 0) (.slice none 0 0) ⟨[],[],0,0,[],0⟩ (w1.alloc (.cells #[.slice LA L.length Lc,.int .i64 0,.int .i64 0,.int .i64 0,.int .i64 0,.slice none 0 0,.slice none 0 0,.int .i64 0,.int .i64 0,.string ⟨#[]⟩,.int .i64 0] 98)):=
  have fV:Below w1.heap.size w1 (w1.alloc (.cells #[.slice LA L.length Lc,.int .i64 0,.int .i64 0,.int .i64 0,.int .i64 0,.slice none 0 0,.slice none 0 0,.int .i64 0,.int .i64 0,.string ⟨#[]⟩,.int .i64 0] 98)):=zR.alloc zL _
  ⟨⟨Bk.new w1 _ _,vS.out.below fV⟩,Ef.out.old fV,HB1.out.trans (fV.mono (by omega)),jK.nil _ _,wZ.nil _ _⟩
 have HV5:=zH V5;have hgb:=hk1;have hwb:w.heap.size<=w1.heap.size:=Nat.le_of_lt hk1;clear V5 vS HB1 Ef hk1;generalize w1.alloc (.cells #[.slice LA L.length Lc,.int .i64 0,.int .i64 0,.int .i64 0,.int .i64 0,.slice none 0 0,.slice none 0 0,.int .i64 0,.int .i64 0,.string ⟨#[]⟩,.int .i64 0] 98)=W5 at *;generalize w1.heap.size=b at *;obtain⟨gr,hgr⟩:∃z,w.heap.size=z:=⟨_,rfl⟩
 have Ih:=zH hgr;rw[hgr]at HV5 hgb hwb;have hL0:0<L.length:=by obtain⟨M,e,rfl,_⟩:=he;simp
 have hok0:gm L ⟨0,0,0,0⟩:=⟨hL0,Nat.le_refl _⟩
 have HIS:Hid (∀(x:PS) (W:World) (S:ByteArray) (v:Str) (rest:List Value),S.toList=v->gm L x->di b 98 rest L LA Lc x W->Calls Try.prog 39 #[.pointer (some ⟨b,0,none⟩),.string S] W fun r w'=>r=.returned (.bool (eQ L x v))/\Below W.heap.size W w'):=zH fun x W S v rest hv ho h=>by
  have:=kL b _ rest L LA Lc x W S h ho.lt hL
  rwa [hv]at this
 have lX:Hid (∀(x:PS) (W:World) (S:ByteArray) (v:Str) (rest:List Value),S.toList=v->gm L x->di b 98 rest L LA Lc x W->Calls Try.prog 37 #[.pointer (some ⟨b,0,none⟩),.string S] W fun r w'=>r=.returned (.tuple #[])/\Steps b 98 rest L LA Lc (ay L v x) W w'):=zH fun x W S v rest hv ho h=>by
  have:=fM b _ rest L LA Lc x W S h ho.lt hL
  rwa [hv]at this
 have QZ:Hid (∀(x:PS) (W:World) (bv:Value) (dC:List (List bu)),gm L x->dC.length<=4->Bl b gr L LA Lc w x bv (.slice none 0 0) ⟨dC,[],0,0,[],0⟩ W->Calls Try.prog 38 #[.pointer (some ⟨b,0,none⟩)] W fun r w'=>r=.returned (.tuple #[])/\∃X9,Bl b gr L LA Lc w (eG L dC.length x).2 X9 (.slice none 0 0) ⟨dC++[(eG L dC.length x).1],[],0,0,[],0⟩ w'):=zH fun x W bv dC ho hn h=>by
  refine(H8 b (b+1) L LA Lc x W bv _ dC h.st h.br he ho hL hn (Nat.lt_succ_self b) h.st.bk.lt).mono ?_;rintro r w' ⟨rfl,hb,X9,h1,h2⟩;exact⟨rfl,X9,h1,h.kr.below hb hgb,h.hb.trans (hb.mono (by rw[Ih.out];exact hwb)),h2,wZ.nil _ _⟩
 have hpat:(⟨#[80,65,84,84,69,82,78]⟩:ByteArray).toList=nC:=by rw[ByteArray.toList_eq];rfl
 have hbar:(⟨#[124]⟩:ByteArray).toList=[124]:=by rw[ByteArray.toList_eq]
 have H9:Hid (∀x,gm L x->x.i<=4001):=zH fun x h=>by have:=h.lt;omega
 have g1:=bn.need he nC hok0;have g2:=g1.trans (bn.branch he g1.ok 0);obtain⟨RB,hrb⟩:∃z,KW L=z:=⟨_,rfl⟩
 have hR:=aK.out;clear aK;rw[hrb]at hR;unfold KW at hrb;have WR:=zH hrb;have aK:=zH hR;clear hR hrb;go_wp2_with fail
 refine(lX.out ⟨0,0,0,0⟩ _ _ _ _ hpat hok0 HV5.out.st).mono ?_;rintro r w6 ⟨rfl,hs6⟩;have dS:=zH (HV5.out.grow hgb (by rw[Ih.out];exact hwb) hs6.st hs6.grown);generalize ay L nC ⟨0,0,0,0⟩=s1 at *;have hok1:=g1.ok;clear hs6 HV5 g1;go_wp2_with fail
 refine(QZ.out s1 w6 _ [] hok1 (by simp) dS.out).mono ?_;rintro r w7 ⟨rfl,bv1,h7⟩;have vz:Hid (Bl b gr L LA Lc w (eG L 0 s1).2 bv1 (.slice none 0 0) ⟨[(eG L 0 s1).1],[],0,0,[],0⟩ w7):=zH h7;clear h7 dS;generalize eG L 0 s1=r1 at *;have hok2:=g2.ok;obtain⟨l1,s2⟩:=r1;simp only at vz hok2 WR;have HRB:=WR;clear g2 WR
 go_upto_block 0 with fail
 go_cut[] (fun wx=>∃bv,Hid (Bl b gr L LA Lc w RB.2 bv (.slice none 0 0) ⟨RB.1,[],0,0,[],0⟩ wx))
 case first=>
  as_aux_lemma=>
  clear aK;go_wp2_with fail
  go_loopg [] (L.length+1) (fun gk wr=>∃(bv:Value) (dC:List (List bu)) (x:PS),Hid (jJ L gk dC x=RB)/\L.length-x.i<gk/\Hid (x.err=0->dC.length<=4)/\Hid (gm L x)/\Hid (Bl b gr L LA Lc w x bv (.slice none 0 0) ⟨dC,[],0,0,[],0⟩ wr))
  case atStart=>exact⟨bv1,[l1],s2,HRB,by omega,zH (fun _=>by simp),zH hok2,vz⟩
  case round=>
   clear vz HRB;obtain⟨bv,dC,x,hrec,hlt,HN4,vw,HV⟩:=hrel;obtain⟨wo,rfl⟩:∃wo:World,wo=wr:=⟨_,rfl⟩
   obtain⟨k,rfl⟩:∃k,gk=k+1:=⟨gk-1,by omega⟩
   have zu:=hrec.out;rw[uH]at zu;have l7:=zH zu;clear hrec zu;obtain⟨go,hgo⟩:∃z,(decide (x.err=0)&&eQ L x [124])=z:=⟨_,rfl⟩
   have yZ:=zH hgo;clear hgo;go_upto_region 7 with fail
   go_cut[41] (fun v wx=>v=.bool go/\Hid (Bl b gr L LA Lc w x bv (.slice none 0 0) ⟨dC,[],0,0,[],0⟩ wx))
   case first=>
    as_aux_lemma=>
    have d3:=HV.out.st.c3
    by_cases h0:x.err=0
    case neg=>
     have iQ:((x.err:Int)==0)=false:=by rw[beq_eq_false_iff_ne];omega
     have hst:go=false:=by rw[<-yZ.out];simp[h0]
     subst hst;clear h0;go_wp2_with fail
     go_meet
     exact⟨rfl,HV⟩
    case pos=>
     have iQ:((x.err:Int)==0)=true:=by rw[beq_iff_eq];omega
     have hst:eQ L x [124]=go:=by rw[<-yZ.out];simp[h0]
     have HST:=zH hst;clear h0 hst;go_wp2_with fail
     refine(HIS.out x wo _ _ _ hbar vw.out HV.out.st).mono ?_;rintro r w8 ⟨rfl,hb8⟩;rw[HST.out];have qH:=zH (HV.out.old hb8);clear hb8 HV d3;go_wp2_with fail
     go_meet
     exact⟨rfl,qH⟩
   case rest=>
   obtain⟨rfl,qH⟩:=hcut;clear HV;cases go
   case false=>
    as_aux_lemma=>
    have hR:=l7.out
    rw[if_pos (by
     have:=yZ.out
     by_cases h0:x.err=0
     ·right;simpa[h0]using this
     ·exact .inl h0)]at hR
    subst hR;clear l7;go_wp2_with fail
    go_meet
    exact⟨bv,qH⟩
   case true=>
    as_aux_lemma=>
    have hg:x.err=0/\eQ L x [124]=true:=by simpa using yZ.out
    have hR:=l7.out;rw[if_neg (by simp[hg.1,hg.2])]at hR;have HR:=zH hR;have gn:=bn.next he vw.out (bG hg.2);have hn4:=HN4.out hg.1;have gb:=gn.trans (bn.branch he gn.ok dC.length);have hokn:=gn.ok;have hxi:=H9.out x vw.out;have hxl:=vw.out.lt;have hle:x.i+1<=(eG L dC.length (aO x)).2.i:=(bn.branch he gn.ok dC.length).le;have HOKB:=zH gb.ok
    have HF:Hid ((eG L dC.length (aO x)).2.err=0->dC.length+1<=4):=zH fun h=>by
     rcases Nat.lt_or_ge dC.length 4 with h4|h4
     ·exact h4
     ·rw[show dC.length=4 by omega]at h;exact absurd h (F7 L _)
    have e1:=qH.out.st.c1;have f1:=qH.out.st.fr 1;have pq:=zH (qH.out.next hgb (by rw[Ih.out];exact hwb));clear hR l7 gn gb qH hg yZ;go_upto_region 9 with fail
    clear e1 f1;generalize wc.setCell ⟨b,1,none⟩ (.int .i64 ((x.i:Int)+1))=W9 at *;go_wp2_with fail
    refine(QZ.out (aO x) W9 bv dC hokn hn4 pq.out).mono ?_;rintro r w10 ⟨rfl,bv2,h10⟩;have uo:=zH h10;clear h10 pq;go_wp2
    go_roundg k
    case measure=>omega
    case rel=>exact⟨bv2,_,_,HR,by omega,zH (fun h=>by simpa using HF.out h),HOKB,uo⟩
 case rest=>
 obtain⟨bv,HV⟩:=hcut;have hgo:gm L RB.2:=by rw[<-HRB.out];exact(xq he _ _ _ hok2).ok
 clear vz HRB QZ bv1 hok2;obtain⟨dC,s3⟩:=RB;simp only at HV hgo aK;have gw:=bn.WO he hgo
 have hww:Calls Try.prog 40 #[.pointer (some ⟨b,0,none⟩)] wc fun r w'=>r=.returned (.tuple #[])/\∃wv,Bl b gr L LA Lc w (jB L s3).2 bv wv ⟨dC,(jB L s3).1,0,0,[],0⟩ w':=by
  refine(Kw b (b+1) L LA Lc s3 wc bv _ HV.out.st he hgo hL (Nat.lt_succ_self b) HV.out.st.bk.lt).mono ?_;rintro r w' ⟨rfl,hg,wv,h1,h2⟩;exact⟨rfl,wv,h1,HV.out.kr.grown hg (aC (by omega)),HV.out.hb.trans ((pW hg (Nat.le_of_lt HV.out.st.bk.lt)).mono (by rw[Ih.out];exact hwb)),HV.out.br.grown hg (by omega),h2⟩
 have HWW:=zH hww;generalize jB L s3=rw3 at *;obtain⟨es,s4⟩:=rw3;simp only at HWW gw aK;have Fe:=gw.1.ok;have hfew:=gw.2;clear hww gw;go_wp2_with fail
 refine HWW.out.mono ?_;rintro r w4 ⟨rfl,wv,h4⟩;have gZ:=zH h4;clear h4 HWW HV;have gt:=bn.tail he Fe
 have htt:Calls Try.prog 41 #[.pointer (some ⟨b,0,none⟩)] w4 fun r w'=>r=.returned (.tuple #[])/\Bl b gr L LA Lc w (nD L s4).2 bv wv ⟨dC,es,(nD L s4).1.1,(nD L s4).1.2.1,(nD L s4).1.2.2.1,(nD L s4).1.2.2.2⟩ w':=by
  refine(NY b bv wv L LA Lc s4 w4 gZ.out.st he Fe hL).mono ?_;rintro r w' ⟨rfl,h1⟩;exact⟨rfl,h1.st,gZ.out.kr.grown h1.gw (aC (by omega)),gZ.out.hb.trans ((pW h1.gw (Nat.le_of_lt gZ.out.st.bk.lt)).mono (by rw[Ih.out];exact hwb)),gZ.out.br.grown h1.gw (by omega),gZ.out.wh.grown h1.gw (by omega)⟩
 have GZ:=zH htt;generalize nD L s4=rt at *;obtain⟨⟨st,win,key,ka⟩,s5⟩:=rt;simp only at GZ gt aK;have zy:=gt.ok;clear htt gt;go_wp2_with fail
 refine GZ.out.mono ?_;rintro r w5 ⟨rfl,h5⟩;have Uj:=zH h5;clear h5 GZ gZ;go_upto_region 12 with fail
 obtain⟨bad,hbad⟩:∃z,(decide (s5.err=0)&& !decide ((bf L s5).kind=0))=z:=⟨_,rfl⟩
 have HBAD:=zH hbad;clear hbad
 go_cut[78] (fun v wx=>v=.bool bad/\Hid (Bl b gr L LA Lc w s5 bv wv ⟨dC,es,st,win,key,ka⟩ wx))
 case first=>
  as_aux_lemma=>
  obtain⟨tb,tq,hA,htb,hc⟩:=Uj.out.st.rd.elem (n:=5) ug (by omega) zy.lt;have hlt5:=zy.lt;have r0:w5.cell? ⟨tb,tq+s5.i*5,none⟩=some (.int .i64 L[s5.i].kind):=hc 0 _ rfl;rw[<-qE zy.lt]at r0;have c0:=Uj.out.st.c0;have c1:=Uj.out.st.c1;have c3:=Uj.out.st.c3;rw[hA]at c0;have hlt4:=zy.lt;clear hA hc
  by_cases h0:s5.err=0
  case neg=>
   have iQ:((s5.err:Int)==0)=false:=by rw[beq_eq_false_iff_ne];omega
   have hst:bad=false:=by rw[<-HBAD.out];simp[h0]
   subst hst;clear h0
   go_quiet (fail)
   have Ff:=zH (Uj.out.old (below_drewN zR nq));go_wp2
   go_meet
   exact⟨rfl,Ff⟩
  case pos=>
   have iQ:((s5.err:Int)==0)=true:=by rw[beq_iff_eq];omega
   by_cases hk:(bf L s5).kind=0
   case pos=>
    have J8:(((bf L s5).kind:Int) !=0)=false:=by rw[bne_eq_false_iff_eq];omega
    have hst:bad=false:=by rw[<-HBAD.out];simp[hk]
    subst hst;generalize(bf L s5).kind=K at *;clear h0 hk
    go_quiet (fail)
    have Ff:=zH (Uj.out.old (below_drewN zR nq));go_wp2
    go_meet
    exact⟨rfl,Ff⟩
   case neg=>
    have J8:(((bf L s5).kind:Int) !=0)=true:=by rw[bne_iff_ne];omega
    have hst:bad=true:=by rw[<-HBAD.out];simp[hk,h0]
    subst hst;generalize(bf L s5).kind=K at *;clear h0 hk
    go_quiet (fail)
    have Ff:=zH (Uj.out.old (below_drewN zR nq));go_wp2
    go_meet
    exact⟨rfl,Ff⟩
 case rest=>
 obtain⟨rfl,HV5⟩:=hcut;clear Uj;obtain⟨s6,hs6⟩:∃z,WQ L s5=z:=⟨_,rfl⟩
 have hs6':s6=if bad=true then aW L 13 s5 else s5:=by
  rw[<-hs6,<-HBAD.out];unfold WQ;simp
 have hR:=aK.out;clear aK;rw[hs6]at hR;have aK:=zH hR;have WS:=zH hs6';clear hR hs6 hs6' HBAD;go_upto_if 78 with fail
 go_cut[] (fun wx=>Hid (Bl b gr L LA Lc w s6 bv wv ⟨dC,es,st,win,key,ka⟩ wx))
 case first=>
  as_aux_lemma=>
  cases bad
  case false=>
   have hx:s6=s5:=WS.out;subst hx;go_wp2_with fail
   go_meet
   exact HV5
  case true=>
   have HX:Hid (aW L 13 s5=s6):=zH WS.out.symm;have jG:=zH (ku b _ _ L LA Lc s5 wc 13 HV5.out.st zy.lt hL);go_wp2_with fail
   refine jG.out.mono ?_;rintro r w8 ⟨rfl,hs8⟩;have qH:Hid (Bl b gr L LA Lc w s6 bv wv ⟨dC,es,st,win,key,ka⟩ w8):=zH (by rw[<-HX.out];exact HV5.out.grow hgb (by rw[Ih.out];exact hwb) hs8.st hs8.grown);clear hs8 HV5 jG;go_wp2_with fail
   go_meet
   exact qH
 case rest=>
 have dS:=hcut;clear hcut HV5 WS bad;have d3:=dS.out.st.c3
 by_cases h0:s6.err=0
 case neg=>
  as_aux_lemma=>
  have iQ:((s6.err:Int) !=0)=true:=by rw[bne_iff_ne];omega
  have hR:=aK.out;unfold IG at hR;rw[if_pos h0]at hR;subst hR;clear h0 aK;go_upto_region 15 with fail
  clear d3 iQ;have hs3:=dS.out.st;have k3:=dS.out.kr;have c4:=hs3.c4;have c3:=hs3.c3;have HB:=zH dS.out.hb;clear dS;obtain⟨W,hW⟩:∃W,wc=W:=⟨_,rfl⟩
  rw[hW]at hs3 k3 c4 c3 HB⊢;clear hW;refine kD 14 11 (some gr) (by decide) (by kernel_rfl) (fun qk=>(OQ b gr s6).getD qk .any) (by kernel_rfl) ?_ ?_
  ·refine cu.cons rfl [] [] rfl _ rfl (by kernel_rfl) rfl (by kernel_rfl) (by kernel_rfl) (fun qK qa wr hB qO qF hK=>?_) ?_
   ·clear qO qF;go_simp;exact hK _ _ zR rfl
   refine cu.pure rfl [] [8] rfl rfl (by kernel_rfl) (by kernel_rfl) (.pointer (some ⟨b,0,none⟩)) rfl (fun qK qa wr qO qF hK=>?_) ?_
   ·have e8:qa.tmps[8]? =some (.pointer (some ⟨b,0,none⟩)):=qO.1.trans rfl;clear qO qF;go_simp;exact hK
   refine cu.pure rfl [1] [] rfl rfl (by kernel_rfl) (by kernel_rfl) (.pointer (some ⟨b,0,none⟩)) rfl (fun qK qa wr qO qF hK=>?_) ?_
   ·have e90:=jC qF.1 rfl rfl;clear qO qF;go_simp;exact hK
   refine cu.pure rfl [2] [] rfl rfl (by kernel_rfl) (by kernel_rfl) (.pointer (some ⟨b,0,none⟩)) rfl (fun qK qa wr qO qF hK=>?_) ?_
   ·have e91:=jC qF.1 rfl rfl;clear qO qF;go_simp;exact hK
   refine cu.pure rfl [3] [] rfl rfl (by kernel_rfl) (by kernel_rfl) (.pointer (some ⟨b,4,none⟩)) rfl (fun qK qa wr qO qF hK=>?_) ?_
   ·have e92:=jC qF.1 rfl rfl;clear qO qF;go_simp;exact hK
   refine cu.read rfl [4] [] rfl rfl (by kernel_rfl) (by kernel_rfl) (.int .i64 (s6.pos:Nat)) rfl (fun qK qa wr hG qO qF hK=>?_) ?_
   ·have X5:=jC qF.1 rfl rfl;clear qO qF;have c4:wr.cell? ⟨b,4,none⟩=some (.int .i64 (s6.pos:Nat)):=(hs3.bk.grown hG (aC (by omega))).cell 4;clear hG;go_simp;exact hK
   refine cu.pure rfl [] [8] rfl rfl (by kernel_rfl) (by kernel_rfl) (.pointer (some ⟨b,0,none⟩)) rfl (fun qK qa wr qO qF hK=>?_) ?_
   ·have e8:qa.tmps[8]? =some (.pointer (some ⟨b,0,none⟩)):=qO.1.trans rfl;clear qO qF;go_simp;exact hK
   refine cu.pure rfl [6] [] rfl rfl (by kernel_rfl) (by kernel_rfl) (.pointer (some ⟨b,0,none⟩)) rfl (fun qK qa wr qO qF hK=>?_) ?_
   ·have e95:=jC qF.1 rfl rfl;clear qO qF;go_simp;exact hK
   refine cu.pure rfl [7] [] rfl rfl (by kernel_rfl) (by kernel_rfl) (.pointer (some ⟨b,0,none⟩)) rfl (fun qK qa wr qO qF hK=>?_) ?_
   ·have e96:=jC qF.1 rfl rfl;clear qO qF;go_simp;exact hK
   refine cu.pure rfl [8] [] rfl rfl (by kernel_rfl) (by kernel_rfl) (.pointer (some ⟨b,3,none⟩)) rfl (fun qK qa wr qO qF hK=>?_) ?_
   ·have e97:=jC qF.1 rfl rfl;clear qO qF;go_simp;exact hK
   refine cu.read rfl [9] [] rfl rfl (by kernel_rfl) (by kernel_rfl) (.int .i64 (s6.err:Nat)) rfl (fun qK qa wr hG qO qF hK=>?_) ?_
   ·have e98:=jC qF.1 rfl rfl;clear qO qF;have c3:wr.cell? ⟨b,3,none⟩=some (.int .i64 (s6.err:Nat)):=(hs3.bk.grown hG (aC (by omega))).cell 3;clear hG;go_simp;exact hK
   refine cu.app rfl [0] [2] rfl (by kernel_rfl) (by kernel_rfl) (fun qK qa wr hB qO qF hK=>?_) ?_
   ·have e2:qa.tmps[2]? =some (.pointer (some ⟨gr,0,none⟩)):=qO.1.trans rfl;have e89:=aH qF.1 rfl rfl;clear qO qF;exact yw lS _ _ rfl (pU (by assumption)) [.slice none 0 0,.slice none 0 0,.int .i64 0,.int .i64 0,.string ⟨#[]⟩,.int .i64 0] (pU (by assumption)) (k3.old hB) rfl rfl rfl (fun w9 p9=>hK _ _ ((below_grown hB _).trans p9.grown) (Nat.le_of_eq p9.size.symm) p9.bk)
   refine cu.pure rfl [5] [] rfl rfl (by kernel_rfl) (by kernel_rfl) (.int .i64 (s6.pos:Nat)) rfl (fun qK qa wr qO qF hK=>?_) ?_
   ·have e94:=jC qF.1 rfl rfl;clear qO qF;go_simp;exact hK
   refine cu.pure rfl [10] [] rfl rfl (by kernel_rfl) (by kernel_rfl) (.int .i64 (s6.err:Nat)) rfl (fun qK qa wr qO qF hK=>?_) ?_
   ·have e99:=jC qF.1 rfl rfl;clear qO qF;go_simp;exact hK
   exact cu.nil
  intro vals wr hl hG hR
  match vals,hl with
  |[z89,z90,z91,z92,z93,z94,z95,z96,z97,z98,z99,zn11,z3,z4],_=>
  have r0:z89=.agg #[.slice none 0 0,.slice none 0 0,.int .i64 0,.int .i64 0,.string ⟨#[]⟩,.int .i64 0]:=hR 0 _ rfl;subst r0;have r5:z94=.int .i64 (s6.pos:Nat):=hR 5 _ rfl;subst r5;have r10:z99=.int .i64 (s6.err:Nat):=hR 10 _ rfl;subst r10;have r12:z3=.int .i64 (s6.pos:Nat):=hR 12 _ rfl;subst r12;have r13:z4=.int .i64 (s6.err:Nat):=hR 13 _ rfl;subst r13;have r11:(fun v W=>Bk W gr 80 #[.slice none 0 0,.slice none 0 0,.int .i64 0,.int .i64 0,.string ⟨#[]⟩,.int .i64 0]) zn11 wr:=iD (hR 11 _ rfl) rfl;clear hR;simp only[List.take_succ_cons,List.take_zero,List.drop_succ_cons,List.drop_zero,List.toList_toArray,List.cons_append,List.nil_append,aN,Act.put,List.setIfInBounds_toArray,List.set_cons_zero,List.set_cons_succ];have hgl:=k3.lt;clear k3;go_wp2
  obtain⟨u0,u1,u2,u3,u4,u5⟩:=zc6 r11;refine bodyPost_ret (v:=.tuple #[.agg #[.slice none 0 0,.slice none 0 0,.int .i64 0,.int .i64 0,.string ⟨#[]⟩,.int .i64 0],.int .i64 (s6.pos:Nat),.int .i64 (s6.err:Nat)]) (by simp[results,Try.results33,go_sem,u0,u1,u2,u3,u4,u5]) rfl ?_;exact⟨gr,_,rfl,Nat.le_refl _,⟨_,_,rfl,jK.nil _ _,wZ.nil _ _⟩,readB (by rw[<-Ih.out];exact HB.out) hG hgl⟩
 case pos=>
  as_aux_lemma=>
  have iQ:((s6.err:Int) !=0)=false:=by rw[bne_eq_false_iff_eq];omega
  have hR:=aK.out;unfold IG at hR;rw[if_neg (by omega)]at hR;have kE:=zH hR;clear h0 aK hR;obtain⟨N,hN⟩:∃N,iw ⟨dC,es,st,win,key,ka⟩=N:=⟨_,rfl⟩
  have hNle:N<=1000000:=by
   rw[<-hN];have:iw ⟨dC,es,st,win,key,ka⟩=aX 0 es:=rfl;omega
  obtain⟨css,hown,hfl⟩:=dS.out.wh;obtain⟨A,c,rfl,-⟩:=bF hown
  have hnd:∀W,Below wc.heap.size wc W->Calls Try.prog 43 #[.agg #[bv,.slice A css.length c,.int .i64 st,.int .i64 win,.string (bytes key),.int .i64 ka]] W fun r w'=>r=.returned (.int .i64 (N:Nat))/\Below W.heap.size W w':=fun W hW=>by
   rw[<-hN];exact zA (b+1) W ⟨dC,es,st,win,key,ka⟩ bv A c css (aP hown hW) (hfl.keep fun g hP hg=>⟨hP,hW.block g hg⟩) (by rw[hN];exact hNle)
  have Hr:=zH hnd;have hbk:=dS.out.st.bk;have q5:wc.cell? ⟨b,5,none⟩=some bv:=(hbk.cell 5).trans (by simp[dw,bU.cells,iE]);have q6:wc.cell? ⟨b,6,none⟩=some (.slice A css.length c):=(hbk.cell 6).trans (by simp[dw,bU.cells,iE]);have q7:wc.cell? ⟨b,7,none⟩=some (.int .i64 st):=(hbk.cell 7).trans (by simp[dw,bU.cells,iE]);have q8:wc.cell? ⟨b,8,none⟩=some (.int .i64 win):=(hbk.cell 8).trans (by simp[dw,bU.cells,iE]);have q9:wc.cell? ⟨b,9,none⟩=some (.string (bytes key)):=(hbk.cell 9).trans (by simp[dw,bU.cells,iE]);have q10:wc.cell? ⟨b,10,none⟩=some (.int .i64 ka):=(hbk.cell 10).trans (by simp[dw,bU.cells,iE]);have hR:=kE.out;clear kE;rw[hN]at hR;have aK:=zH hR;clear hnd hown hfl hN hbk hR hfew lX;generalize css.length=n at *;go_wp2_with fail
  refine(Hr.out wc zR).mono ?_;rintro r w9 ⟨rfl,dZ⟩;have pq:=zH (dS.out.old dZ);replace q5:=(aU dZ b 5 dS.out.st.bk.lt).trans q5;replace q6:=(aU dZ b 6 dS.out.st.bk.lt).trans q6;replace q7:=(aU dZ b 7 dS.out.st.bk.lt).trans q7;replace q8:=(aU dZ b 8 dS.out.st.bk.lt).trans q8;replace q9:=(aU dZ b 9 dS.out.st.bk.lt).trans q9;replace q10:=(aU dZ b 10 dS.out.st.bk.lt).trans q10;clear dZ dS Hr d3;have BN:=zH pq.out.kr
  by_cases hbig:200<N
  ·as_aux_lemma=>
   have hbI:(200:Int)<(N:Int):=by omega
   have hR:=aK.out;rw[if_pos hbig]at hR;subst hR;clear hbig aK q5 q6 q7 q8 q9 q10;go_wp2_with (first|(refine ae lS rfl _ _ rfl rfl [.slice none 0 0,.slice none 0 0,.int .i64 0,.int .i64 0,.string ⟨#[]⟩,.int .i64 0] rfl BN.out rfl rfl rfl ?_;intro w11 p9))
   obtain⟨u0,u1,u2,u3,u4,u5⟩:=zc6 p9.bk;have dZ:=p9.below _ _ pq.out.hb (by rw[Ih.out];exact Nat.le_refl _);refine bodyPost_ret (v:=.tuple #[.agg #[.slice none 0 0,.slice none 0 0,.int .i64 0,.int .i64 0,.string ⟨#[]⟩,.int .i64 0],.int .i64 0,.int .i64 2]) (by simp[results,Try.results33,go_sem,u0,u1,u2,u3,u4,u5]) rfl ?_;exact⟨gr,_,rfl,Nat.le_refl _,⟨_,_,rfl,jK.nil _ _,wZ.nil _ _⟩,by rw[<-Ih.out];exact dZ⟩
  ·as_aux_lemma=>
   have hbI:¬(200:Int)<(N:Int):=by omega
   have hR:=aK.out;rw[if_neg hbig]at hR;subst hR;clear hbig aK
   obtain⟨bvA,bvc,hbv⟩:∃A c,bv=.slice A dC.length c:=by
    obtain⟨vs,h1,_⟩:=pq.out.br;obtain⟨A,c,h,_⟩:=bF h1;exact⟨A,c,h⟩
   subst hbv;go_wp2_with (first|(refine ae lS rfl _ _ rfl rfl [.slice bvA dC.length bvc,.slice A n c,.int .i64 st,.int .i64 win,.string (bytes key),.int .i64 ka] rfl BN.out rfl rfl rfl ?_;intro w11 p9))
   obtain⟨u0,u1,u2,u3,u4,u5⟩:=zc6 p9.bk;have dZ:=p9.below _ _ pq.out.hb (by rw[Ih.out];exact Nat.le_refl _);refine bodyPost_ret (v:=.tuple #[.agg #[.slice bvA dC.length bvc,.slice A n c,.int .i64 st,.int .i64 win,.string (bytes key),.int .i64 ka],.int .i64 0,.int .i64 0]) (by simp[results,Try.results33,go_sem,u0,u1,u2,u3,u4,u5]) rfl ?_;exact⟨b+1,_,rfl,by omega,⟨_,_,rfl,pq.out.br.grown p9.grown (by omega),pq.out.wh.grown p9.grown (by omega)⟩,by rw[<-Ih.out];exact dZ⟩
end Go.Proofs.Ytbjnhllkdilpfaa
