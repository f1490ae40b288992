/- Part 34 of the proof. No conditions. -/
import Derived.Test.YtbjnhllkdilpfaaZc18
namespace Go.Proofs.Ytbjnhllkdilpfaa
open Go.RowKit
set_option maxRecDepth 100000
set_option maxHeartbeats 16000000
set_option linter.unusedVariables false
set_option linter.unusedSimpArgs false
theorem zA9:(Try.prog.info? 80).map (fun i=>(i.zero,i.size,i.bytes))=some (some (.agg #[.slice none 0 0,.slice none 0 0,.int .i64 0,.int .i64 0,.string ⟨#[]⟩,.int .i64 0]),6,88):=by kernel_rfl
theorem mr (w:World):(sizeOf 80).run Try.prog w=.ok 6 w:=by
 obtain⟨i,hi,h0,h1,h2⟩:=info_parts zA9;simp[sizeOf,typeInfo,hi,h1]
theorem xX {L:List az} {w:Str} {s:PS} (h:s.err≠0):aJ L w s=s:=by unfold aJ;rw[if_pos h]
theorem Iu {L:List az} {w:Str} {s:PS} (h:s.err≠0\/eX L s w=false):(aJ L w s).err≠0:=by
 by_cases h0:s.err≠0
 ·rw[xX h0];exact h0
 ·unfold aJ;rw[if_neg h0,if_neg (by rw[h.resolve_left h0];decide)];exact jM (by decide)
theorem Iw (L:List az) (s:PS):(eP L 4 s).2.err≠0:=by
 rw[uK]
 have h1:(aJ L nH (if s.err=0/\eX L s nH=true/\(4:Nat)=4 then aS L 2 s else s)).err≠0:=by
  by_cases hc:s.err=0/\eX L s nH=true/\(4:Nat)=4
  ·rw[if_pos hc];exact Iu (.inl (jM (by decide)))
  ·rw[if_neg hc];refine Iu ?_
   by_cases h0:s.err=0
   ·right
    exact Bool.eq_false_iff.2 fun h=>hc ⟨h0,h,rfl⟩
   ·exact .inl h0
 generalize aJ L nH (if s.err=0/\eX L s nH=true/\(4:Nat)=4 then aS L 2 s else s)=s2 at *;rw[xX h1,xQ,if_pos h1,xX h1];exact h1
theorem wK (L:List az) (k:Nat) (b:List (List aZ)) (s:PS):jX L (k+1) b s=if s.err≠0\/eX L s [124]=false then(b,s)else jX L k (b++[(eP L b.length (aI s)).1]) (eP L b.length (aI s)).2:=rfl
theorem yN {L:List az} (he:dK L):∀(k:Nat) (b:List (List aZ)) (s:PS),gG L s->bf L s (jX L k b s).2
 |0,b,s,h=>bf.refl h
 |k+1,b,s,h=>by
  rw[wK]
  split
  ·exact bf.refl h
  ·rename_i hx
   simp only[not_or,Bool.not_eq_false]at hx;have g:=bf.next he h (bn hx.2);have g2:=g.trans (bf.branch he g.ok b.length);exact g2.trans (yN he k _ _ g2.ok)
theorem bf.Zj {L:List az} {s:PS} (he:dK L) (h:gG L s):bf L s (jJ L s).2/\aV 0 (jJ L s).1<=1+2*L.length:=by
 unfold jJ
 split
 ·exact⟨bf.refl h,Nat.zero_le _⟩
 ·rename_i hx
  simp only[not_or,Bool.not_eq_false]at hx;have g:=bf.next he h (bn hx.2);have hf:=Ha he (s.i+1) g.ok.lt;have g1:=g.ok.opn;have g2:=g.ok.lt;generalize lY L (s.i+1)=r at *;obtain⟨x,nx,ap,er⟩:=r;simp only at *
  split
  ·exact⟨⟨⟨g2,g1⟩,Nat.le_succ _,rfl⟩,Nat.zero_le _⟩
  ·rename_i he
   have h3:=hf.2.2 (by omega);have h4:=h.opn;refine⟨⟨⟨h3.2,by show s.opn<=nx;omega⟩,by show s.i<=nx;omega,rfl⟩,?_⟩;have:=uM x 0;simp only[Nat.lt_irrefl,if_false]at this;exact Nat.le_trans this hf.1
theorem bf.tail {L:List az} {s:PS} (he:dK L) (h:gG L s):bf L s (nZ L s).2:=by
 rw[Hm];have g1:=bf.need he jm h;have g2:=g1.trans (Ba he oP 0 0 _ g1.ok);generalize fU L 0 oP (0,aJ L jm s)=r at *;have g3:=bf.tl4 he r g2;have g6:=bf.tl6 (bf.tl5 g3)
 have hk:(qU L (l7 L (Hl L r))).err=0->(aY L (qU L (l7 L (Hl L r)))).kind≠0:=fun h0=>by
  have:=(Ho h0).1;omega
 generalize qU L (l7 L (Hl L r))=s6 at *;unfold tailE
 split
 ·exact g6
 ·rename_i h0
  have g7:=g6.trans (bf.next he g6.ok (hk (by omega)))
  split
  ·rename_i hp
   have g8:=g7.trans (bf.next he g7.ok (bn hp));have g9:=g8.trans (bf.need he Xh g8.ok);exact g9.trans (bf.MJ he g9.ok)
  ·exact g7
def KL (bs:List (List aZ)) (wh:List ax) (q:Nat×Nat×Str×Nat) (s:PS):bK×Nat×Nat:=
 if s.err≠0 then(xM,s.pos,s.err)
 else if 200<iJ ⟨bs,wh,q.1,q.2.1,q.2.2.1,q.2.2.2⟩then(xM,0,2)
 else(⟨bs,wh,q.1,q.2.1,q.2.2.1,q.2.2.2⟩,0,0)
def Zk (L:List az) (s:PS):PS:=if s.err=0/\(aY L s).kind≠0 then aS L 13 s else s
def OE (L:List az):List (List aZ)×PS:=jX L (L.length+1) [(eP L 0 (aJ L nY ⟨0,0,0,0⟩)).1] (eP L 0 (aJ L nY ⟨0,0,0,0⟩)).2
theorem OG (L:List az):JO L=KL (OE L).1 (jJ L (OE L).2).1 (nZ L (jJ L (OE L).2).2).1 (Zk L (nZ L (jJ L (OE L).2).2).2):=by kernel_rfl
structure CS (b gr:Nat) (L:List az) (LA:Option Addr) (Lc:Nat) (w:World) (x:PS) (bv wv:Value) (q:bK) (W:World):Prop where
 st:dh b 98 (q.cells bv wv) L LA Lc x W
 kr:Bk W gr 80 #[.slice none 0 0,.slice none 0 0,.int .i64 0,.int .i64 0,.string ⟨#[]⟩,.int .i64 0]
 hb:Below w.heap.size w W
 br:jY (b+1) W bv q.branches
 wh:yI (b+1) W wv q.cond
theorem yI.old {B:Nat} {w w':World} {v:Value} {es:List ax} (h:yI B w v es) (hb:Below w.heap.size w w'):yI B w' v es:=by
 obtain⟨css,h1,h2⟩:=h;exact⟨css,aQ h1 hb,h2.keep fun g hP hg=>⟨hP,hb.block g hg⟩⟩
theorem yI.grown {b B:Nat} {w w':World} {v:Value} {es:List ax} (h:yI B w v es) (hg:w.grownBy w' (some b)) (hb:b<B):yI B w' v es:=by
 obtain⟨css,h1,h2⟩:=h;exact⟨css,fV h1 hg hb,h2.keep fun g hP hlt=>⟨hP,hg.block g hlt (aA (by omega))⟩⟩
theorem yI.nil (B:Nat) (w:World):yI B w (.slice none 0 0) []:=⟨[],World.ownsRow_nil _ _ _ _,trivial⟩
theorem jY.nil (B:Nat) (w:World):jY B w (.slice none 0 0) []:=⟨[],World.ownsRow_nil _ _ _ _,trivial⟩
section
variable {b gr:Nat} {L:List az} {LA:Option Addr} {Lc:Nat} {w W W':World} {x y:PS} {bv wv:Value} {q:bK}
theorem CS.old (h:CS b gr L LA Lc w x bv wv q W) (hb:Below W.heap.size W W'):CS b gr L LA Lc w x bv wv q W':=
 ⟨h.st.old hb,h.kr.old hb,h.hb.trans (hb.mono h.hb.size),h.br.old hb,h.wh.old hb⟩
theorem CS.grow (h:CS b gr L LA Lc w x bv wv q W) (hgb:gr<b) (hw:w.heap.size<=b) (hst:dh b 98 (q.cells bv wv) L LA Lc y W') (hg:W.grownBy W' (some b)):CS b gr L LA Lc w y bv wv q W':=
 ⟨hst,h.kr.grown hg (aA (by omega)),h.hb.trans ((qQ hg (Nat.le_of_lt h.st.bk.lt)).mono hw),h.br.grown hg (by omega),h.wh.grown hg (by omega)⟩
theorem CS.next (h:CS b gr L LA Lc w x bv wv q W) (hgb:gr<b) (hw:w.heap.size<=b):CS b gr L LA Lc w (aI x) bv wv q (W.setCell ⟨b,1,none⟩ (.int .i64 ((x.i:Int)+1))):=
 have hn:=step_next b _ _ L LA Lc x W h.st
 h.grow hgb hw hn.st hn.grown
end
def EX (s:Str) (w:World) (e:Ending) (w':World):Prop:=
 ∃(B:Nat) (cs:List Value),e=.returned (.tuple #[.agg cs.toArray,.int .i64 ((lq s).2.1:Nat),.int .i64 ((lq s).2.2:Nat)])/\w.heap.size<=B/\QV B w' (lq s).1 cs/\Below w.heap.size w w'
theorem parse_any (s:ByteArray) (w:World):Calls Try.prog 33 #[.string s] w (EX s.toList w):=by
 have Pn:Hid (∀W:World,Calls Try.prog 36 #[.string s] W (JS (kN s.toList) W)):=zH fun W=>QL s W
 obtain⟨RES,hres⟩:∃R,lq s.toList=R:=⟨_,rfl⟩
 have hok:=Q9 s.toList;have hp:lq s.toList=if(kN s.toList).2.2≠0 then(xM,(kN s.toList).2.1,(kN s.toList).2.2)else JO (kN s.toList).1:=rfl
 unfold EX;rw[hres]at hp⊢;unfold JS at Pn;generalize kN s.toList=SR at *;obtain⟨L,ap,er⟩:=SR;simp only at Pn hp hok;have HP:=zH hp;have xq:=zH hok;clear hres hp hok
 go_enter Try.func33,Try.ntmps33
 have k0:=Bk.new w 80 #[.slice none 0 0,.slice none 0 0,.int .i64 0,.int .i64 0,.string ⟨#[]⟩,.int .i64 0];have hb0:Below w.heap.size w (w.alloc (.cells #[.slice none 0 0,.slice none 0 0,.int .i64 0,.int .i64 0,.string ⟨#[]⟩,.int .i64 0] 80)):=zR.alloc zL _;go_upto_region 1 with fail
 generalize w.alloc (.cells #[.slice none 0 0,.slice none 0 0,.int .i64 0,.int .i64 0,.string ⟨#[]⟩,.int .i64 0] 80)=W0 at *;go_wp2_with fail
 refine(Pn.out _).mono ?_;rintro r w1 ⟨LA,Lc,rfl,hrd,hb1⟩;have vg:=zH hrd;have HB1:=zH (hb0.trans (hb1.mono hb0.size));have Vx:=zH (k0.old hb1);have hk1:=(k0.old hb1).lt;clear Pn hrd hb0 hb1 k0
 by_cases her:er=0
 case neg=>
  have iV:((er:Int) !=0)=true:=by rw[bne_iff_ne];omega
  have hR:=HP.out;rw[if_pos her]at hR;subst hR;clear HP xq her;go_wp2_with (first|(refine ae mr rfl _ _ rfl rfl [.slice none 0 0,.slice none 0 0,.int .i64 0,.int .i64 0,.string ⟨#[]⟩,.int .i64 0] rfl Vx.out rfl rfl rfl ?_;intro w9 p9))
  obtain⟨u0,u1,u2,u3,u4,u5⟩:=zc6 p9.bk;have dO:=p9.below _ _ HB1.out zL;refine bodyPost_ret (v:=.tuple #[.agg #[.slice none 0 0,.slice none 0 0,.int .i64 0,.int .i64 0,.string ⟨#[]⟩,.int .i64 0],.int .i64 (ap:Nat),.int .i64 (er:Nat)]) (by simp[results,Try.results33,go_sem,u0,u1,u2,u3,u4,u5]) rfl ?_;exact⟨w.heap.size,_,rfl,Nat.le_refl _,⟨_,_,rfl,jY.nil _ _,yI.nil _ _⟩,dO⟩
 case pos=>
 have iV:((er:Int) !=0)=false:=by rw[bne_eq_false_iff_eq];omega
 have hR:=HP.out;rw[if_neg (by omega),OG]at hR;obtain⟨he,hL⟩:=xq.out her;have aG:=zH hR;clear HP xq hR her;go_upto_region 5 with fail
 have V5:CS w1.heap.size w.heap.size L LA Lc w ⟨0,0,0,0⟩ (.slice none 0 0) (.slice none 0 0) ⟨[],[],0,0,[],0⟩ (w1.alloc (.cells #[.slice LA L.length Lc,.int .i64 0,.int .i64 0,.int .i64 0,.int .i64 0,.slice none 0 0,.slice none 0 0,.int .i64 0,.int .i64 0,.string ⟨#[]⟩,.int .i64 0] 98)):=
  have jc:Below w1.heap.size w1 (w1.alloc (.cells #[.slice LA L.length Lc,.int .i64 0,.int .i64 0,.int .i64 0,.int .i64 0,.slice none 0 0,.slice none 0 0,.int .i64 0,.int .i64 0,.string ⟨#[]⟩,.int .i64 0] 98)):=zR.alloc zL _
  ⟨⟨Bk.new w1 _ _,vg.out.below jc⟩,Vx.out.old jc,HB1.out.trans (jc.mono (by omega)),jY.nil _ _,yI.nil _ _⟩
 have HV5:=zH V5;have hgb:=hk1;have hwb:w.heap.size<=w1.heap.size:=Nat.le_of_lt hk1;clear V5 vg HB1 Vx hk1;generalize w1.alloc (.cells #[.slice LA L.length Lc,.int .i64 0,.int .i64 0,.int .i64 0,.int .i64 0,.slice none 0 0,.slice none 0 0,.int .i64 0,.int .i64 0,.string ⟨#[]⟩,.int .i64 0] 98)=W5 at *;generalize w1.heap.size=b at *;obtain⟨gr,hgr⟩:∃z,w.heap.size=z:=⟨_,rfl⟩
 have o6:=zH hgr;rw[hgr]at HV5 hgb hwb;have hL0:0<L.length:=by obtain⟨M,e,rfl,_⟩:=he;simp
 have hok0:gG L ⟨0,0,0,0⟩:=⟨hL0,Nat.le_refl _⟩
 have HIS:Hid (∀(x:PS) (W:World) (S:ByteArray) (v:Str) (rest:List Value),S.toList=v->gG L x->dh b 98 rest L LA Lc x W->Calls Try.prog 39 #[.pointer (some ⟨b,0,none⟩),.string S] W fun r w'=>r=.returned (.bool (eX L x v))/\Below W.heap.size W w'):=zH fun x W S v rest hv ho h=>by
  have:=lu b _ rest L LA Lc x W S h ho.lt hL
  rwa [hv]at this
 have pR:Hid (∀(x:PS) (W:World) (S:ByteArray) (v:Str) (rest:List Value),S.toList=v->gG L x->dh b 98 rest L LA Lc x W->Calls Try.prog 37 #[.pointer (some ⟨b,0,none⟩),.string S] W fun r w'=>r=.returned (.tuple #[])/\Steps b 98 rest L LA Lc (aJ L v x) W w'):=zH fun x W S v rest hv ho h=>by
  have:=lZ b _ rest L LA Lc x W S h ho.lt hL
  rwa [hv]at this
 have Qb:Hid (∀(x:PS) (W:World) (bv:Value) (dI:List (List aZ)),gG L x->dI.length<=4->CS b gr L LA Lc w x bv (.slice none 0 0) ⟨dI,[],0,0,[],0⟩ W->Calls Try.prog 38 #[.pointer (some ⟨b,0,none⟩)] W fun r w'=>r=.returned (.tuple #[])/\∃bv',CS b gr L LA Lc w (eP L dI.length x).2 bv' (.slice none 0 0) ⟨dI++[(eP L dI.length x).1],[],0,0,[],0⟩ w'):=zH fun x W bv dI ho hn h=>by
  refine(JZ b (b+1) L LA Lc x W bv _ dI h.st h.br he ho hL hn (Nat.lt_succ_self b) h.st.bk.lt).mono ?_;rintro r w' ⟨rfl,hb,bv',h1,h2⟩;exact⟨rfl,bv',h1,h.kr.below hb hgb,h.hb.trans (hb.mono (by rw[o6.out];exact hwb)),h2,yI.nil _ _⟩
 have hpat:(⟨#[80,65,84,84,69,82,78]⟩:ByteArray).toList=nY:=by rw[ByteArray.toList_eq];rfl
 have hbar:(⟨#[124]⟩:ByteArray).toList=[124]:=by rw[ByteArray.toList_eq]
 have J3:Hid (∀x,gG L x->x.i<=4001):=zH fun x h=>by have:=h.lt;omega
 have g1:=bf.need he nY hok0;have g2:=g1.trans (bf.branch he g1.ok 0);obtain⟨RB,hrb⟩:∃z,OE L=z:=⟨_,rfl⟩
 have hR:=aG.out;clear aG;rw[hrb]at hR;unfold OE at hrb;have Zl:=zH hrb;have aG:=zH hR;clear hR hrb;go_wp2_with fail
 refine(pR.out ⟨0,0,0,0⟩ _ _ _ _ hpat hok0 HV5.out.st).mono ?_;rintro r w6 ⟨rfl,hs6⟩;have fM:=zH (HV5.out.grow hgb (by rw[o6.out];exact hwb) hs6.st hs6.grown);generalize aJ L nY ⟨0,0,0,0⟩=s1 at *;have hok1:=g1.ok;clear hs6 HV5 g1;go_wp2_with fail
 refine(Qb.out s1 w6 _ [] hok1 (by simp) fM.out).mono ?_;rintro r w7 ⟨rfl,bv1,h7⟩;have ML:Hid (CS b gr L LA Lc w (eP L 0 s1).2 bv1 (.slice none 0 0) ⟨[(eP L 0 s1).1],[],0,0,[],0⟩ w7):=zH h7;clear h7 fM;generalize eP L 0 s1=r1 at *;have hok2:=g2.ok;obtain⟨l1,s2⟩:=r1;simp only at ML hok2 Zl;have HRB:=Zl;clear g2 Zl
 go_upto_block 0 with fail
 go_cut[] (fun wx=>∃bv,Hid (CS b gr L LA Lc w RB.2 bv (.slice none 0 0) ⟨RB.1,[],0,0,[],0⟩ wx))
 case first=>
  clear aG;go_wp2_with fail
  go_loopg [] (L.length+1) (fun gk wr=>∃(bv:Value) (dI:List (List aZ)) (x:PS),Hid (jX L gk dI x=RB)/\L.length-x.i<gk/\Hid (x.err=0->dI.length<=4)/\Hid (gG L x)/\Hid (CS b gr L LA Lc w x bv (.slice none 0 0) ⟨dI,[],0,0,[],0⟩ wr))
  case atStart=>exact⟨bv1,[l1],s2,HRB,by omega,zH (fun _=>by simp),zH hok2,ML⟩
  case round=>
   clear ML HRB;obtain⟨bv,dI,x,hrec,hlt,HN4,xq,HV⟩:=hrel;obtain⟨wo,rfl⟩:∃wo:World,wo=wr:=⟨_,rfl⟩
   obtain⟨k,rfl⟩:∃k,gk=k+1:=⟨gk-1,by omega⟩
   have Bc:=hrec.out;rw[wK]at Bc;have jS:=zH Bc;clear hrec Bc;obtain⟨go,hgo⟩:∃z,(decide (x.err=0)&&eX L x [124])=z:=⟨_,rfl⟩
   have nP:=zH hgo;clear hgo;go_upto_region 7 with fail
   go_cut[41] (fun v wx=>v=.bool go/\Hid (CS b gr L LA Lc w x bv (.slice none 0 0) ⟨dI,[],0,0,[],0⟩ wx))
   case first=>
    have d3:=HV.out.st.c3
    by_cases h0:x.err=0
    case neg=>
     have iV:((x.err:Int)==0)=false:=zB (by omega)
     have hst:go=false:=by rw[<-nP.out];simp[h0]
     subst hst;clear h0;go_wp2_with fail
     go_meet
     exact⟨rfl,HV⟩
    case pos=>
     have iV:((x.err:Int)==0)=true:=by rw[beq_iff_eq];omega
     have hst:eX L x [124]=go:=by rw[<-nP.out];simp[h0]
     have HST:=zH hst;clear h0 hst;go_wp2_with fail
     refine(HIS.out x wo _ _ _ hbar xq.out HV.out.st).mono ?_;rintro r w8 ⟨rfl,hb8⟩;rw[HST.out];have rZ:=zH (HV.out.old hb8);clear hb8 HV d3;go_wp2_with fail
     go_meet
     exact⟨rfl,rZ⟩
   case rest=>
   obtain⟨rfl,rZ⟩:=hcut;clear HV;cases go
   case false=>
    have hR:=jS.out
    rw[if_pos (by
     have:=nP.out
     by_cases h0:x.err=0
     ·right;simpa[h0]using this
     ·exact .inl h0)]at hR
    subst hR;clear jS;go_wp2_with fail
    go_meet
    exact⟨bv,rZ⟩
   case true=>
    have hg:x.err=0/\eX L x [124]=true:=by simpa using nP.out
    have hR:=jS.out;rw[if_neg (by simp[hg.1,hg.2])]at hR;have HR:=zH hR;have gn:=bf.next he xq.out (bn hg.2);have hn4:=HN4.out hg.1;have gb:=gn.trans (bf.branch he gn.ok dI.length);have hokn:=gn.ok;have hxi:=J3.out x xq.out;have hxl:=xq.out.lt;have hle:x.i+1<=(eP L dI.length (aI x)).2.i:=(bf.branch he gn.ok dI.length).le;have HOKB:=zH gb.ok
    have HF:Hid ((eP L dI.length (aI x)).2.err=0->dI.length+1<=4):=zH fun h=>by
     rcases Nat.lt_or_ge dI.length 4 with h4|h4
     ·exact h4
     ·rw[show dI.length=4 by omega]at h;exact absurd h (Iw L _)
    have e1:=rZ.out.st.c1;have f1:=rZ.out.st.fr 1;have J8:=zH (rZ.out.next hgb (by rw[o6.out];exact hwb));clear hR jS gn gb rZ hg nP;go_upto_region 9 with fail
    clear e1 f1;generalize wc.setCell ⟨b,1,none⟩ (.int .i64 ((x.i:Int)+1))=W9 at *;go_wp2_with fail
    refine(Qb.out (aI x) W9 bv dI hokn hn4 J8.out).mono ?_;rintro r w10 ⟨rfl,bv2,h10⟩;have Q8:=zH h10;clear h10 J8;go_wp2
    go_roundg k
    case measure=>omega
    case rel=>exact⟨bv2,_,_,HR,by omega,zH (fun h=>by simpa using HF.out h),HOKB,Q8⟩
 case rest=>
 obtain⟨bv,HV⟩:=hcut;have hgo:gG L RB.2:=by rw[<-HRB.out];exact(yN he _ _ _ hok2).ok
 clear ML HRB Qb bv1 hok2;obtain⟨dI,s3⟩:=RB;simp only at HV hgo aG;have gw:=bf.Zj he hgo
 have hww:Calls Try.prog 40 #[.pointer (some ⟨b,0,none⟩)] wc fun r w'=>r=.returned (.tuple #[])/\∃wv,CS b gr L LA Lc w (jJ L s3).2 bv wv ⟨dI,(jJ L s3).1,0,0,[],0⟩ w':=by
  refine(Og b (b+1) L LA Lc s3 wc bv _ HV.out.st he hgo hL (Nat.lt_succ_self b) HV.out.st.bk.lt).mono ?_;rintro r w' ⟨rfl,hg,wv,h1,h2⟩;exact⟨rfl,wv,h1,HV.out.kr.grown hg (aA (by omega)),HV.out.hb.trans ((qQ hg (Nat.le_of_lt HV.out.st.bk.lt)).mono (by rw[o6.out];exact hwb)),HV.out.br.grown hg (by omega),h2⟩
 have HWW:=zH hww;generalize jJ L s3=rw3 at *;obtain⟨es,s4⟩:=rw3;simp only at HWW gw aG;have Hq:=gw.1.ok;have hfew:=gw.2;clear hww gw;go_wp2_with fail
 refine HWW.out.mono ?_;rintro r w4 ⟨rfl,wv,h4⟩;have jE:=zH h4;clear h4 HWW HV;have gt:=bf.tail he Hq
 have htt:Calls Try.prog 41 #[.pointer (some ⟨b,0,none⟩)] w4 fun r w'=>r=.returned (.tuple #[])/\CS b gr L LA Lc w (nZ L s4).2 bv wv ⟨dI,es,(nZ L s4).1.1,(nZ L s4).1.2.1,(nZ L s4).1.2.2.1,(nZ L s4).1.2.2.2⟩ w':=by
  refine(Q7 b bv wv L LA Lc s4 w4 jE.out.st he Hq hL).mono ?_;rintro r w' ⟨rfl,h1⟩;exact⟨rfl,h1.st,jE.out.kr.grown h1.gw (aA (by omega)),jE.out.hb.trans ((qQ h1.gw (Nat.le_of_lt jE.out.st.bk.lt)).mono (by rw[o6.out];exact hwb)),jE.out.br.grown h1.gw (by omega),jE.out.wh.grown h1.gw (by omega)⟩
 have Jk:=zH htt;generalize nZ L s4=rt at *;obtain⟨⟨st,win,key,ka⟩,s5⟩:=rt;simp only at Jk gt aG;have Be:=gt.ok;clear htt gt;go_wp2_with fail
 refine Jk.out.mono ?_;rintro r w5 ⟨rfl,h5⟩;have Xx:=zH h5;clear h5 Jk jE;go_upto_region 12 with fail
 obtain⟨bad,hbad⟩:∃z,(decide (s5.err=0)&& !decide ((aY L s5).kind=0))=z:=⟨_,rfl⟩
 have HBAD:=zH hbad;clear hbad
 go_cut[78] (fun v wx=>v=.bool bad/\Hid (CS b gr L LA Lc w s5 bv wv ⟨dI,es,st,win,key,ka⟩ wx))
 case first=>
  obtain⟨tb,tq,hA,htb,hc⟩:=Xx.out.st.rd.elem (n:=5) vS (by omega) Be.lt;have Yc:=Be.lt;have r0:w5.cell? ⟨tb,tq+s5.i*5,none⟩=some (.int .i64 L[s5.i].kind):=hc 0 _ rfl;rw[<-rX Be.lt]at r0;have c0:=Xx.out.st.c0;have c1:=Xx.out.st.c1;have c3:=Xx.out.st.c3;rw[hA]at c0;have hlt4:=Be.lt;clear hA hc
  by_cases h0:s5.err=0
  case neg=>
   have iV:((s5.err:Int)==0)=false:=zB (by omega)
   have hst:bad=false:=by rw[<-HBAD.out];simp[h0]
   subst hst;clear h0
   go_quiet (fail)
   have Hr:=zH (Xx.out.old (below_drewN zR nq));go_wp2
   go_meet
   exact⟨rfl,Hr⟩
  case pos=>
   have iV:((s5.err:Int)==0)=true:=by rw[beq_iff_eq];omega
   by_cases hk:(aY L s5).kind=0
   case pos=>
    have QM:(((aY L s5).kind:Int) !=0)=false:=by rw[bne_eq_false_iff_eq];omega
    have hst:bad=false:=by rw[<-HBAD.out];simp[hk]
    subst hst;generalize(aY L s5).kind=K at *;clear h0 hk
    go_quiet (fail)
    have Hr:=zH (Xx.out.old (below_drewN zR nq));go_wp2
    go_meet
    exact⟨rfl,Hr⟩
   case neg=>
    have QM:(((aY L s5).kind:Int) !=0)=true:=by rw[bne_iff_ne];omega
    have hst:bad=true:=by rw[<-HBAD.out];simp[hk,h0]
    subst hst;generalize(aY L s5).kind=K at *;clear h0 hk
    go_quiet (fail)
    have Hr:=zH (Xx.out.old (below_drewN zR nq));go_wp2
    go_meet
    exact⟨rfl,Hr⟩
 case rest=>
 obtain⟨rfl,HV5⟩:=hcut;clear Xx;obtain⟨s6,hs6⟩:∃z,Zk L s5=z:=⟨_,rfl⟩
 have hs6':s6=if bad=true then aS L 13 s5 else s5:=by
  rw[<-hs6,<-HBAD.out];unfold Zk;simp
 have hR:=aG.out;clear aG;rw[hs6]at hR;have aG:=zH hR;have Zm:=zH hs6';clear hR hs6 hs6' HBAD;go_upto_if 78 with fail
 go_cut[] (fun wx=>Hid (CS b gr L LA Lc w s6 bv wv ⟨dI,es,st,win,key,ka⟩ wx))
 case first=>
  cases bad
  case false=>
   have hx:s6=s5:=Zm.out;subst hx;go_wp2_with fail
   go_meet
   exact HV5
  case true=>
   have HX:Hid (aS L 13 s5=s6):=zH Zm.out.symm;have jR:=zH (kU b _ _ L LA Lc s5 wc 13 HV5.out.st Be.lt hL);go_wp2_with fail
   refine jR.out.mono ?_;rintro r w8 ⟨rfl,hs8⟩;have rZ:Hid (CS b gr L LA Lc w s6 bv wv ⟨dI,es,st,win,key,ka⟩ w8):=zH (by rw[<-HX.out];exact HV5.out.grow hgb (by rw[o6.out];exact hwb) hs8.st hs8.grown);clear hs8 HV5 jR;go_wp2_with fail
   go_meet
   exact rZ
 case rest=>
 have fM:=hcut;clear hcut HV5 Zm bad;have d3:=fM.out.st.c3
 by_cases h0:s6.err=0
 case neg=>
  have iV:((s6.err:Int) !=0)=true:=by rw[bne_iff_ne];omega
  have hR:=aG.out;unfold KL at hR;rw[if_pos h0]at hR;subst hR;clear h0 aG;go_upto_region 15 with fail
  clear d3 iV;have hs3:=fM.out.st;have k3:=fM.out.kr;have c4:=hs3.c4;have c3:=hs3.c3;have HB:=zH fM.out.hb;clear fM;obtain⟨W,hW⟩:∃W,wc=W:=⟨_,rfl⟩
  rw[hW]at hs3 k3 c4 c3 HB⊢;clear hW
  refine wr 11 (some gr) [.is (.agg #[.slice none 0 0, .slice none 0 0, .int .i64 0, .int .i64 0, .string ⟨#[]⟩, .int .i64 0]),
    .is (.pointer (some ⟨b,0,none⟩)),
    .is (.pointer (some ⟨b,0,none⟩)),
    .is (.pointer (some ⟨b,0,none⟩)),
    .is (.pointer (some ⟨b,4,none⟩)),
    .is (.int .i64 (s6.pos:Nat)),
    .is (.pointer (some ⟨b,0,none⟩)),
    .is (.pointer (some ⟨b,0,none⟩)),
    .is (.pointer (some ⟨b,0,none⟩)),
    .is (.pointer (some ⟨b,3,none⟩)),
    .is (.int .i64 (s6.err:Nat)),
    .st (fun v W=>Bk W gr 80 #[.slice none 0 0,.slice none 0 0,.int .i64 0,.int .i64 0,.string ⟨#[]⟩,.int .i64 0]) (fun v w w2 hb h=>h.old hb),
    .is (.int .i64 (s6.pos:Nat)),
    .is (.int .i64 (s6.err:Nat))] [0,11] (by kernel_rfl) (by kernel_rfl) (by kernel_rfl)
    (fun C=>.c (ah.z (rG _) [] [] (by kernel_rfl) fun qK qa wr hB qO qF hK=>?_) <|
    .c (ah.x (rG _) C rfl (fun _ _=>rfl)) <|
    .c (ah.x (rG _) C rfl (fun _ _=>rfl)) <|
    .c (ah.x (rG _) C rfl (fun _ _=>rfl)) <|
    .c (ah.x (rG _) C rfl (fun _ _=>rfl)) <|
    .c (ah.x (rG _) C rfl (fun wr hG=>by
    have c4:wr.cell? ⟨b,4,none⟩=some (.int .i64 (s6.pos:Nat)):=(hs3.bk.grown hG (aA (by omega))).cell 4
    exact bW (lJ (by assumption)))) <|
    .c (ah.x (rG _) C rfl (fun _ _=>rfl)) <|
    .c (ah.x (rG _) C rfl (fun _ _=>rfl)) <|
    .c (ah.x (rG _) C rfl (fun _ _=>rfl)) <|
    .c (ah.x (rG _) C rfl (fun _ _=>rfl)) <|
    .c (ah.x (rG _) C rfl (fun wr hG=>by
    have c3:wr.cell? ⟨b,3,none⟩=some (.int .i64 (s6.err:Nat)):=(hs3.bk.grown hG (aA (by omega))).cell 3
    exact bW (lJ (by assumption)))) <|
    .c (ah.g [0] [2] (by kernel_rfl) fun qK qa wr hB qO qF hK=>?_) <|
    .c (ah.x (rG _) C rfl (fun _ _=>rfl)) <|
    .c (ah.x (rG _) C rfl (fun _ _=>rfl)) <| .nil) ?_
  ·clear qO qF;go_simp;exact hK _ _ zR rfl
  ·have e2:qa.tmps[2]? =some (.pointer (some ⟨gr,0,none⟩)):=qO.1.trans rfl;have e89:=ay qF.1 rfl rfl;clear qO qF;exact zD mr _ _ rfl (qM (by assumption)) [.slice none 0 0,.slice none 0 0,.int .i64 0,.int .i64 0,.string ⟨#[]⟩,.int .i64 0] (qM (by assumption)) (k3.old hB) rfl rfl rfl (fun w9 p9=>hK _ _ ((below_grown hB _).trans p9.grown) (Nat.le_of_eq p9.size.symm) p9.bk)
  intro qx wr hG hR;have r11:(fun v W=>Bk W gr 80 #[.slice none 0 0,.slice none 0 0,.int .i64 0,.int .i64 0,.string ⟨#[]⟩,.int .i64 0]) (qx 11) wr:=hR 11 rfl rfl;clear hR;simp only[bJ,List.take_succ_cons,List.take_zero,List.drop_succ_cons,List.drop_zero,List.toList_toArray,List.length_cons,List.length_nil,Act.put,List.setIfInBounds_toArray,List.set_cons_zero,List.set_cons_succ];generalize qx 11=zn11 at r11⊢;refine zn ?_;have hgl:=k3.lt;clear k3;go_wp2
  obtain⟨u0,u1,u2,u3,u4,u5⟩:=zc6 r11;refine bodyPost_ret (v:=.tuple #[.agg #[.slice none 0 0,.slice none 0 0,.int .i64 0,.int .i64 0,.string ⟨#[]⟩,.int .i64 0],.int .i64 (s6.pos:Nat),.int .i64 (s6.err:Nat)]) (by simp[results,Try.results33,go_sem,u0,u1,u2,u3,u4,u5]) rfl ?_;exact⟨gr,_,rfl,Nat.le_refl _,⟨_,_,rfl,jY.nil _ _,yI.nil _ _⟩,readB (by rw[<-o6.out];exact HB.out) hG hgl⟩
 case pos=>
  have iV:((s6.err:Int) !=0)=false:=by rw[bne_eq_false_iff_eq];omega
  have hR:=aG.out;unfold KL at hR;rw[if_neg (by omega)]at hR;have kV:=zH hR;clear h0 aG hR;obtain⟨N,hN⟩:∃N,iJ ⟨dI,es,st,win,key,ka⟩=N:=⟨_,rfl⟩
  have hNle:N<=1000000:=by
   rw[<-hN];have:iJ ⟨dI,es,st,win,key,ka⟩=aV 0 es:=rfl;omega
  obtain⟨css,hown,hfl⟩:=fM.out.wh;obtain⟨A,c,rfl,-⟩:=bg hown
  have hnd:∀W,Below wc.heap.size wc W->Calls Try.prog 43 #[.agg #[bv,.slice A css.length c,.int .i64 st,.int .i64 win,.string (bytes key),.int .i64 ka]] W fun r w'=>r=.returned (.int .i64 (N:Nat))/\Below W.heap.size W w':=fun W hW=>by
   rw[<-hN];exact Bf (b+1) W ⟨dI,es,st,win,key,ka⟩ bv A c css (aQ hown hW) (hfl.keep fun g hP hg=>⟨hP,hW.block g hg⟩) (by rw[hN];exact hNle)
  have JV:=zH hnd;have hbk:=fM.out.st.bk;have q5:wc.cell? ⟨b,5,none⟩=some bv:=(hbk.cell 5).trans (by simp[bZ,bK.cells,iK]);have q6:wc.cell? ⟨b,6,none⟩=some (.slice A css.length c):=(hbk.cell 6).trans (by simp[bZ,bK.cells,iK]);have q7:wc.cell? ⟨b,7,none⟩=some (.int .i64 st):=(hbk.cell 7).trans (by simp[bZ,bK.cells,iK]);have q8:wc.cell? ⟨b,8,none⟩=some (.int .i64 win):=(hbk.cell 8).trans (by simp[bZ,bK.cells,iK]);have q9:wc.cell? ⟨b,9,none⟩=some (.string (bytes key)):=(hbk.cell 9).trans (by simp[bZ,bK.cells,iK]);have q10:wc.cell? ⟨b,10,none⟩=some (.int .i64 ka):=(hbk.cell 10).trans (by simp[bZ,bK.cells,iK]);have hR:=kV.out;clear kV;rw[hN]at hR;have aG:=zH hR;clear hnd hown hfl hN hbk hR hfew pR;generalize css.length=n at *;go_wp2_with fail
  refine(JV.out wc zR).mono ?_;rintro r w9 ⟨rfl,dO⟩;have J8:=zH (fM.out.old dO);replace q5:=(aT dO b 5 fM.out.st.bk.lt).trans q5;replace q6:=(aT dO b 6 fM.out.st.bk.lt).trans q6;replace q7:=(aT dO b 7 fM.out.st.bk.lt).trans q7;replace q8:=(aT dO b 8 fM.out.st.bk.lt).trans q8;replace q9:=(aT dO b 9 fM.out.st.bk.lt).trans q9;replace q10:=(aT dO b 10 fM.out.st.bk.lt).trans q10;clear dO fM JV d3;have Vo:=zH J8.out.kr
  by_cases hbig:200<N
  ·
   have hbI:(200:Int)<(N:Int):=by omega
   have hR:=aG.out;rw[if_pos hbig]at hR;subst hR;clear hbig aG q5 q6 q7 q8 q9 q10;go_wp2_with (first|(refine ae mr rfl _ _ rfl rfl [.slice none 0 0,.slice none 0 0,.int .i64 0,.int .i64 0,.string ⟨#[]⟩,.int .i64 0] rfl Vo.out rfl rfl rfl ?_;intro Gt p9))
   obtain⟨u0,u1,u2,u3,u4,u5⟩:=zc6 p9.bk;have dO:=p9.below _ _ J8.out.hb (by rw[o6.out];exact Nat.le_refl _);refine bodyPost_ret (v:=.tuple #[.agg #[.slice none 0 0,.slice none 0 0,.int .i64 0,.int .i64 0,.string ⟨#[]⟩,.int .i64 0],.int .i64 0,.int .i64 2]) (by simp[results,Try.results33,go_sem,u0,u1,u2,u3,u4,u5]) rfl ?_;exact⟨gr,_,rfl,Nat.le_refl _,⟨_,_,rfl,jY.nil _ _,yI.nil _ _⟩,by rw[<-o6.out];exact dO⟩
  ·
   have hbI:¬(200:Int)<(N:Int):=by omega
   have hR:=aG.out;rw[if_neg hbig]at hR;subst hR;clear hbig aG
   obtain⟨bvA,bvc,hbv⟩:∃A c,bv=.slice A dI.length c:=by
    obtain⟨vs,h1,_⟩:=J8.out.br;obtain⟨A,c,h,_⟩:=bg h1;exact⟨A,c,h⟩
   subst hbv;go_wp2_with (first|(refine ae mr rfl _ _ rfl rfl [.slice bvA dI.length bvc,.slice A n c,.int .i64 st,.int .i64 win,.string (bytes key),.int .i64 ka] rfl Vo.out rfl rfl rfl ?_;intro Gt p9))
   obtain⟨u0,u1,u2,u3,u4,u5⟩:=zc6 p9.bk;have dO:=p9.below _ _ J8.out.hb (by rw[o6.out];exact Nat.le_refl _);refine bodyPost_ret (v:=.tuple #[.agg #[.slice bvA dI.length bvc,.slice A n c,.int .i64 st,.int .i64 win,.string (bytes key),.int .i64 ka],.int .i64 0,.int .i64 0]) (by simp[results,Try.results33,go_sem,u0,u1,u2,u3,u4,u5]) rfl ?_;exact⟨b+1,_,rfl,by omega,⟨_,_,rfl,J8.out.br.grown p9.grown (by omega),J8.out.wh.grown p9.grown (by omega)⟩,by rw[<-o6.out];exact dO⟩
end Go.Proofs.Ytbjnhllkdilpfaa
