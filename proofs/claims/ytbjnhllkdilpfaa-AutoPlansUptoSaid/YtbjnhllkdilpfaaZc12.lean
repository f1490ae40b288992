/- Part 12 of the proof. No conditions. -/
import Derived.Test.YtbjnhllkdilpfaaZc11
namespace Go.Proofs.Ytbjnhllkdilpfaa
open Go.RowKit
set_option maxRecDepth 100000
set_option maxHeartbeats 16000000
set_option linter.unusedVariables false
set_option linter.unusedSimpArgs false
section
variable {L:List az}
theorem DF (f level:Nat) (s:PS):aN L (f+1) level s=if s.err≠0 then(Ar,s)else if level=3\/level=7 then uj L f level s else if level=8 then qJ L (aN L f 1) s else qI L (aN L f (level+1)) level (L.length+1) (aN L f (level+1) s).1 (aN L f (level+1) s).2:=by
 rw[aN];rfl
theorem GZ (lv:PS->ax×PS) (level k:Nat) (x:ax) (s:PS):qI L lv level (k+1) x s=if s.err≠0 then(x,s)else if Uz L level s=0 then(x,s)else if level=4 then(.bin (Uz L level s) x (lv (aI s)).1 (aY L s).pos,(lv (aI s)).2)else qI L lv level k (.bin (Uz L level s) x (lv (aI s)).1 (aY L s).pos) (lv (aI s)).2:=rfl
end
structure N9 (b:Nat) (t:TypeId) (rest:List Value) (L:List az) (LA:Option Addr) (Lc:Nat) (gr gx B:Nat) (w:World) (x:ax) (cs:List Value) (s:PS) (W:World):Prop where
 st:dh b t rest L LA Lc s W
 kr:Bk W gr 118 #[.int .i64 0,.slice none 0 0,.int .i64 0,.int .i64 0,.string ⟨#[]⟩,.string ⟨#[]⟩,.int .i64 0]
 kx:Bk W gx 118 cs.toArray
 ok:kZ (fun g=>B<=g/\g≠gx) W x cs
 gw:w.grownBy W (some b)
section
variable {b:Nat} {t:TypeId} {rest:List Value} {L:List az} {LA:Option Addr} {Lc:Nat} {gr gx B:Nat} {w W W':World} {x:ax} {cs:List Value} {s s':PS}
theorem N9.old (h:N9 b t rest L LA Lc gr gx B w x cs s W) (hb:Below W.heap.size W W'):N9 b t rest L LA Lc gr gx B w x cs s W':=
 ⟨h.st.old hb,h.kr.old hb,h.kx.old hb,h.ok.old hb,h.gw.trans (below_grown hb (some b))⟩
theorem N9.fin (h:N9 b t rest L LA Lc gr gx (gr+1) w x cs s W) (hbr:b<gr) (hw:w.heap.size<=gr) (hp:lH W gr 118 cs.toArray W'):kZ (fun g=>w.heap.size<=g) W' x cs/\dh b t rest L LA Lc s W'/\w.grownBy W' (some b):=
 ⟨h.ok.keep fun g hP hlt=>⟨by omega,hp.other g (by omega)⟩,h.st.jC hp hbr,eG h.gw hp hw⟩
theorem N9.step (h:N9 b t rest L LA Lc gr gx B w x cs s W) (hbr:b<gr) (hbx:b<gx) (hbB:b<B) (hst:dh b t rest L LA Lc s' W') (hg:W.grownBy W' (some b)):N9 b t rest L LA Lc gr gx B w x cs s' W':=
 ⟨hst,h.kr.grown hg (aA (by omega)),h.kx.grown hg (aA (by omega)),h.ok.keep fun g hP hlt=>⟨hP,hg.block g hlt (by intro e;injection e with e;omega)⟩,h.gw.trans hg⟩
end
section
variable {b:Nat} {t:TypeId} {rest:List Value} {L:List az} {LA:Option Addr} {Lc:Nat} {gr gx B:Nat} {w W W':World} {x:ax} {cs:List Value} {s s':PS}
theorem N9.join (h:N9 b t rest L LA Lc gr gx (gr+1) w x cs s W) (hgr:gr<gx) (hbx:b<gx) (hw:w.heap.size<=gx) {g Wn op pos:Nat} {y:ax} {ys:List Value} (hWn:gx<Wn) (hgn:Wn<=g) (hk:Bk W g 118 (cs++ys).toArray) (hy:kZ (fun g=>Wn<=g) W y ys) (hp:lH W gx 118 (opC op g 2 pos).toArray W'):N9 b t rest L LA Lc gr gx (gr+1) w (.bin op x y pos) (opC op g 2 pos) s W':=
 ⟨h.st.jC hp hbx,hp.BQ h.kr (by omega),hp.bk,⟨g,cs,ys,rfl,⟨by omega,by omega⟩,hp.BQ hk (by omega),h.ok.keep fun q hP hlt=>⟨hP,hp.other q hP.2⟩,hy.keep fun q hP hlt=>⟨⟨by omega,by omega⟩,hp.other q (by omega)⟩⟩,eG h.gw hp hw⟩
end
def Xk (b:Nat) (t:TypeId) (rest:List Value) (L:List az) (LA:Option Addr) (Lc B:Nat) (y:ax) (s:PS) (ys:List Value) (W:World):Prop:=
 kZ (fun g=>B<=g) W y ys/\dh b t rest L LA Lc s W
theorem Xk.old {b:Nat} {t:TypeId} {rest:List Value} {L:List az} {LA:Option Addr} {Lc B:Nat} {y:ax} {s:PS} {ys:List Value} {W W':World} (h:Xk b t rest L LA Lc B y s ys W) (hb:Below W.heap.size W W'):Xk b t rest L LA Lc B y s ys W':=⟨h.1.old hb,h.2.old hb⟩
theorem Rd.some {w:World} {B:Nat} {A:Option Addr} {c:Value} {cs:List Value} (h:Rd w B A (c::cs)):∃g o,A=some ⟨g,o,none⟩/\g<B/\∀(j:Nat) (u:Value),(c::cs)[j]? =some u->w.cell? ⟨g,o+j,none⟩=some u:=by
 rcases h with h|h
 ·simp at h
 ·obtain⟨g,o,h1,h2,h3⟩:=h;exact⟨g,o,h1,h2,h3⟩
theorem G5 {w:World} {B level:Nat} {A:Option Addr} (h:Rd w B A ((dB level).1.map fun x=>Value.string (bytes x))) (hc:∃x l,(dB level).1=x::l):∃g o,A=some ⟨g,o,none⟩/\g<B/\∀(j:Nat) (u:Str),(dB level).1[j]? =some u->w.cell? ⟨g,o+j,none⟩=some (.string (bytes u)):=by
 obtain⟨x,l,hx⟩:=hc;rw[hx]at h⊢;obtain⟨g,o,h1,h2,h3⟩:=Rd.some h;exact⟨g,o,h1,h2,fun j u hu=>h3 j _ (by have:=congrArg (Option.map fun x=>Value.string (bytes x)) hu;rw[<-List.getElem?_map]at this;exact this)⟩
section
variable (b:Nat) (t:TypeId) (rest:List Value) (L:List az) (LA:Option Addr) (Lc:Nat)
theorem yG {L:List az} {s:PS} (hno:∀x,eX L s x=false):∀(l:List Str) (f i op:Nat),nG L s f i l op=op
 |[],_,_,_=>rfl
 |x::l,f,i,op=>by show nG L s f (i+1) l (if eX L s x=true then f+i else op)=op;rw[hno x];exact yG hno l _ _ _
theorem G6 {L:List az} {level:Nat} {s:PS} (h:Uz L level s≠0):(aY L s).kind≠0:=by
 intro hk;exact h (yG (fun x=>by rw[zA,hk];rfl) _ _ _ _)
theorem G7 (L:List az) (s:PS) (f i op:Nat) (x:Str) (l:List Str):nG L s f i (x::l) op=nG L s f (i+1) l (if eX L s x=true then f+i else op):=rfl
theorem G8 (level:Nat):(dB level).1.length<=6/\(dB level).2<=14:=by
 unfold dB;split<;>simp
theorem JX {level:Nat} (h1:1<=level) (h2:level<=8) (h3:¬level=3) (h7:¬level=7) (h8:¬level=8):∃x l,(dB level).1=x::l:=by
 obtain rfl|rfl|rfl|rfl|rfl:level=1\/level=2\/level=4\/level=5\/level=6:=by omega
 all_goals exact⟨_,_,rfl⟩
theorem JY (f : Nat) (IH : QP b t rest L LA Lc f) (level : Nat) (s : PS) (w : World) (hl1 : 1 ≤ level) (hl8 : level ≤ 8) (h : dh b t rest L LA Lc s w) (he : dK L) (hi : gG L s) (hL : L.length ≤ 4001) (hf : 10 * (L.length - s.i) + (9 - level) ≤ f + 1) :
  Calls Try.prog 80 #[.pointer (some ⟨b,0,none⟩),.int .i64 level] w (jd b t rest L LA Lc (aN L (f+1) level s) w):=by
 have hbw:=h.bk.lt;have HS:=zH h;have hil:=hi.lt;have hio:=hi.opn;rw[DF]
 by_cases h0:s.err=0
 case neg=>
  as_aux_lemma=>
  rw[if_pos h0];have iV:((s.err:Int)==0)=false:=zB (by omega)
  clear IH h
  go_enter Try.func80,Try.ntmps80
  have k0:Bk (w.alloc (.cells #[.int .i64 0,.slice none 0 0,.int .i64 0,.int .i64 0,.string ⟨#[]⟩,.string ⟨#[]⟩,.int .i64 0] 118)) w.heap.size 118 #[.int .i64 0,.slice none 0 0,.int .i64 0,.int .i64 0,.string ⟨#[]⟩,.string ⟨#[]⟩,.int .i64 0]:=Bk.new w 118 _;have hb0:Below w.heap.size w (w.alloc (.cells #[.int .i64 0,.slice none 0 0,.int .i64 0,.int .i64 0,.string ⟨#[]⟩,.string ⟨#[]⟩,.int .i64 0] 118)):=zR.alloc zL _;have hs0:=HS.out.old hb0;have d3:=hs0.c3;go_wp2_with (first|(refine ae bV rfl _ _ rfl rfl [.int .i64 0,.slice none 0 0,.int .i64 0,.int .i64 0,.string ⟨#[]⟩,.string ⟨#[]⟩,.int .i64 0] rfl k0 rfl rfl rfl ?_;intro w9 p9))
  obtain⟨u0,u1,u2,u3,u4,u5,u6⟩:=zc7 p9.bk;refine bodyPost_ret (v:=.agg #[.int .i64 0,.slice none 0 0,.int .i64 0,.int .i64 0,.string ⟨#[]⟩,.string ⟨#[]⟩,.int .i64 0]) (by simp[results,Try.results80,go_sem,u0,u1,u2,u3,u4,u5,u6]) rfl ?_;exact⟨[.int .i64 0,.slice none 0 0,.int .i64 0,.int .i64 0,.string ⟨#[]⟩,.string ⟨#[]⟩,.int .i64 0],rfl,rfl,hs0.jC p9 hbw,eG (below_grown hb0 (some b)) p9 zL⟩
 case pos=>
 rw[if_neg (by simp[h0])]
 by_cases h3:level=3
 case pos=>
  as_aux_lemma=>
  subst h3;rw[if_pos (.inl rfl)];have iV:((s.err:Int)==0)=true:=by rw[beq_iff_eq];omega
  have BU:Hid (∀W:World,dh b t rest L LA Lc s W->Calls Try.prog 92 #[.pointer (some ⟨b,0,none⟩),.int .i64 3] W (jd b t rest L LA Lc (uj L f 3 s) W)):=zH fun W h=>GX b t rest L LA Lc f IH s W h he hi hL (by omega)
  generalize uj L f 3 s=RES at *;clear IH h
  go_enter Try.func80,Try.ntmps80
  have k0:Bk (w.alloc (.cells #[.int .i64 0,.slice none 0 0,.int .i64 0,.int .i64 0,.string ⟨#[]⟩,.string ⟨#[]⟩,.int .i64 0] 118)) w.heap.size 118 #[.int .i64 0,.slice none 0 0,.int .i64 0,.int .i64 0,.string ⟨#[]⟩,.string ⟨#[]⟩,.int .i64 0]:=Bk.new w 118 _;have hb0:Below w.heap.size w (w.alloc (.cells #[.int .i64 0,.slice none 0 0,.int .i64 0,.int .i64 0,.string ⟨#[]⟩,.string ⟨#[]⟩,.int .i64 0] 118)):=zR.alloc zL _;have hs0:=HS.out.old hb0;have hz0:=k0.lt;have d3:=hs0.c3;go_wp2_with fail
  refine(BU.out _ hs0).mono ?_;rintro r w2 ⟨cs,rfl,hE,hs2,hg2⟩;obtain⟨y0,y1,y2,y3,y4,y5,y6,rfl,hy⟩:=hE.seven;have k2:=k0.grown hg2 (aA (by omega));have hg:=(below_grown hb0 (some b)).trans hg2;clear hs0 k0 BU hg2 d3;go_wp2_with (first|(refine ae bV rfl _ _ rfl rfl [y0,y1,y2,y3,y4,y5,y6] rfl k2 rfl rfl hy ?_;intro w9 p9))
  obtain⟨u0,u1,u2,u3,u4,u5,u6⟩:=zc7 p9.bk;refine bodyPost_ret (v:=.agg #[y0,y1,y2,y3,y4,y5,y6]) (by simp[results,Try.results80,go_sem,u0,u1,u2,u3,u4,u5,u6]) rfl ?_;exact⟨[y0,y1,y2,y3,y4,y5,y6],rfl,(hE.put p9 hz0).more (by omega),hs2.jC p9 hbw,eG hg p9 zL⟩
 case neg=>
 by_cases h7:level=7
 case pos=>
  as_aux_lemma=>
  subst h7;rw[if_pos (.inr rfl)];have iV:((s.err:Int)==0)=true:=by rw[beq_iff_eq];omega
  have BU:Hid (∀W:World,dh b t rest L LA Lc s W->Calls Try.prog 92 #[.pointer (some ⟨b,0,none⟩),.int .i64 7] W (jd b t rest L LA Lc (uj L f 7 s) W)):=zH fun W h=>GY b t rest L LA Lc f IH s W h he hi hL (by omega)
  generalize uj L f 7 s=RES at *;clear IH h
  go_enter Try.func80,Try.ntmps80
  have k0:Bk (w.alloc (.cells #[.int .i64 0,.slice none 0 0,.int .i64 0,.int .i64 0,.string ⟨#[]⟩,.string ⟨#[]⟩,.int .i64 0] 118)) w.heap.size 118 #[.int .i64 0,.slice none 0 0,.int .i64 0,.int .i64 0,.string ⟨#[]⟩,.string ⟨#[]⟩,.int .i64 0]:=Bk.new w 118 _;have hb0:Below w.heap.size w (w.alloc (.cells #[.int .i64 0,.slice none 0 0,.int .i64 0,.int .i64 0,.string ⟨#[]⟩,.string ⟨#[]⟩,.int .i64 0] 118)):=zR.alloc zL _;have hs0:=HS.out.old hb0;have hz0:=k0.lt;have d3:=hs0.c3;go_wp2_with fail
  refine(BU.out _ hs0).mono ?_;rintro r w2 ⟨cs,rfl,hE,hs2,hg2⟩;obtain⟨y0,y1,y2,y3,y4,y5,y6,rfl,hy⟩:=hE.seven;have k2:=k0.grown hg2 (aA (by omega));have hg:=(below_grown hb0 (some b)).trans hg2;clear hs0 k0 BU hg2 d3;go_wp2_with (first|(refine ae bV rfl _ _ rfl rfl [y0,y1,y2,y3,y4,y5,y6] rfl k2 rfl rfl hy ?_;intro w9 p9))
  obtain⟨u0,u1,u2,u3,u4,u5,u6⟩:=zc7 p9.bk;refine bodyPost_ret (v:=.agg #[y0,y1,y2,y3,y4,y5,y6]) (by simp[results,Try.results80,go_sem,u0,u1,u2,u3,u4,u5,u6]) rfl ?_;exact⟨[y0,y1,y2,y3,y4,y5,y6],rfl,(hE.put p9 hz0).more (by omega),hs2.jC p9 hbw,eG hg p9 zL⟩
 case neg=>
 by_cases h8:level=8
 case pos=>
  as_aux_lemma=>
  subst h8;rw[if_neg (by simp),if_pos rfl];have iV:((s.err:Int)==0)=true:=by rw[beq_iff_eq];omega
  have BU:Hid (∀W:World,dh b t rest L LA Lc s W->Calls Try.prog 93 #[.pointer (some ⟨b,0,none⟩)] W (jd b t rest L LA Lc (qJ L (aN L f 1) s) W)):=zH fun W h=>QQ b t rest L LA Lc f IH s W h he hi hL (by omega)
  generalize qJ L (aN L f 1) s=RES at *;clear IH h
  go_enter Try.func80,Try.ntmps80
  have k0:Bk (w.alloc (.cells #[.int .i64 0,.slice none 0 0,.int .i64 0,.int .i64 0,.string ⟨#[]⟩,.string ⟨#[]⟩,.int .i64 0] 118)) w.heap.size 118 #[.int .i64 0,.slice none 0 0,.int .i64 0,.int .i64 0,.string ⟨#[]⟩,.string ⟨#[]⟩,.int .i64 0]:=Bk.new w 118 _;have hb0:Below w.heap.size w (w.alloc (.cells #[.int .i64 0,.slice none 0 0,.int .i64 0,.int .i64 0,.string ⟨#[]⟩,.string ⟨#[]⟩,.int .i64 0] 118)):=zR.alloc zL _;have hs0:=HS.out.old hb0;have hz0:=k0.lt;have d3:=hs0.c3;go_wp2_with fail
  refine(BU.out _ hs0).mono ?_;rintro r w2 ⟨cs,rfl,hE,hs2,hg2⟩;obtain⟨y0,y1,y2,y3,y4,y5,y6,rfl,hy⟩:=hE.seven;have k2:=k0.grown hg2 (aA (by omega));have hg:=(below_grown hb0 (some b)).trans hg2;clear hs0 k0 BU hg2 d3;go_wp2_with (first|(refine ae bV rfl _ _ rfl rfl [y0,y1,y2,y3,y4,y5,y6] rfl k2 rfl rfl hy ?_;intro w9 p9))
  obtain⟨u0,u1,u2,u3,u4,u5,u6⟩:=zc7 p9.bk;refine bodyPost_ret (v:=.agg #[y0,y1,y2,y3,y4,y5,y6]) (by simp[results,Try.results80,go_sem,u0,u1,u2,u3,u4,u5,u6]) rfl ?_;exact⟨[y0,y1,y2,y3,y4,y5,y6],rfl,(hE.put p9 hz0).more (by omega),hs2.jC p9 hbw,eG hg p9 zL⟩
 case neg=>
 have hno:¬(level=3\/level=7):=by omega
 rw[if_neg hno,if_neg h8];have iV:((s.err:Int)==0)=true:=by rw[beq_iff_eq];omega
 have h3I:((level:Int)==3)=false:=zB (by omega)
 have h7I:((level:Int)==7)=false:=zB (by omega)
 have h8I:((level:Int)==8)=false:=zB (by omega)
 have qm:Hid (∀(s':PS) (W:World),gG L s'->s.i<=s'.i->dh b t rest L LA Lc s' W->Calls Try.prog 80 #[.pointer (some ⟨b,0,none⟩),.int .i64 ((level:Int)+1)] W (jd b t rest L LA Lc (aN L f (level+1) s') W)):=zH fun s' W hok hle h=>by
  have:=IH (level+1) s' W (by omega) (by omega) h hok (by have:=hok.lt;omega)
  rwa [show(((level+1:Nat)):Int)=(level:Int)+1 by omega]at this
 have Yu:Hid (∀s',gG L s'->bf L s' (aN L f (level+1) s').2):=zH fun s' h=>fB he f (level+1) s' h
 have Oa:Hid (∀W,Calls Try.prog 83 #[.int .i64 level] W (Ez level W)):=zH fun W=>DD level hl8 W
 have En:Hid (∀s',gG L s'->(aY L s').kind≠0->bf L s' (aI s')):=zH fun s' h hk=>bf.next he h hk
 have UB:Hid (∀(s':PS) (W:World),gG L s'->dh b t rest L LA Lc s' W->Calls Try.prog 54 #[.pointer (some ⟨b,0,none⟩)] W fun e w'=>e=.returned (aY L s').val/\Below W.heap.size W w'):=zH fun s' W ho h=>rY b t rest L LA Lc s' W h ho.lt hL
 have HIS:Hid (∀(s':PS) (W:World) (S:ByteArray) (x:Str),S.toList=x->gG L s'->dh b t rest L LA Lc s' W->Calls Try.prog 39 #[.pointer (some ⟨b,0,none⟩),.string S] W fun r w'=>r=.returned (.bool (eX L s' x))/\Below W.heap.size W w'):=zH fun s' W S x hx ho h=>by
  have:=lu b t rest L LA Lc s' W S h ho.lt hL
  rwa [hx]at this
 generalize aN L f (level+1)=lv at *;obtain⟨RES,hres⟩:∃R,qI L lv level (L.length+1) (lv s).1 (lv s).2=R:=⟨_,rfl⟩
 rw[hres];have Pn:=zH (JX hl1 hl8 h3 h7 h8);obtain⟨hsl,hsf⟩:=G8 level;clear IH h hno
 go_enter Try.func80,Try.ntmps80
 have k0:Bk (w.alloc (.cells #[.int .i64 0,.slice none 0 0,.int .i64 0,.int .i64 0,.string ⟨#[]⟩,.string ⟨#[]⟩,.int .i64 0] 118)) w.heap.size 118 #[.int .i64 0,.slice none 0 0,.int .i64 0,.int .i64 0,.string ⟨#[]⟩,.string ⟨#[]⟩,.int .i64 0]:=Bk.new w 118 _;have hb0:Below w.heap.size w (w.alloc (.cells #[.int .i64 0,.slice none 0 0,.int .i64 0,.int .i64 0,.string ⟨#[]⟩,.string ⟨#[]⟩,.int .i64 0] 118)):=zR.alloc zL _;have hs0:=HS.out.old hb0;have hz0:=k0.lt;have d3:=hs0.c3;go_wp2_with fail
 refine(qm.out s _ hi zL hs0).mono ?_;rintro r w2 ⟨cs,rfl,hE,hs2,hg2⟩;obtain⟨y0,y1,y2,y3,y4,y5,y6,rfl,hy⟩:=hE.seven;have k2:=k0.grown hg2 (aA (by omega));have hg:=(below_grown hb0 (some b)).trans hg2;have hz2:=k2.lt;have kq:Bk (w2.alloc (.cells #[.int .i64 0,.slice none 0 0,.int .i64 0,.int .i64 0,.string ⟨#[]⟩,.string ⟨#[]⟩,.int .i64 0] 118)) w2.heap.size 118 #[.int .i64 0,.slice none 0 0,.int .i64 0,.int .i64 0,.string ⟨#[]⟩,.string ⟨#[]⟩,.int .i64 0]:=Bk.new w2 118 _;have hbq:Below w2.heap.size w2 (w2.alloc (.cells #[.int .i64 0,.slice none 0 0,.int .i64 0,.int .i64 0,.string ⟨#[]⟩,.string ⟨#[]⟩,.int .i64 0] 118)):=zR.alloc zL _;have hsz0:(w.alloc (.cells #[.int .i64 0,.slice none 0 0,.int .i64 0,.int .i64 0,.string ⟨#[]⟩,.string ⟨#[]⟩,.int .i64 0] 118)).heap.size=w.heap.size+1:=by simp
 clear hs0 k0 hg2 d3 iV h0;go_wp2_with (first|(refine ae bV rfl _ _ rfl rfl [y0,y1,y2,y3,y4,y5,y6] rfl kq rfl rfl hy ?_;intro wA pA;go_frame))
 have jc:Below w2.heap.size w2 wA:=pA.below _ _ hbq zL;have qL:Hid (N9 b t rest L LA Lc w.heap.size w2.heap.size (w.heap.size+1) w (lv s).1 [y0,y1,y2,y3,y4,y5,y6] (lv s).2 wA):=zH ⟨hs2.old jc,k2.old jc,pA.bk,hE.keep fun g hP hlt=>⟨⟨by omega,by omega⟩,jc.block g hlt⟩,hg.trans (below_grown jc (some b))⟩;have HG0:=zH (Yu.out s hi);have aG:=zH hres;have hbx:b<w2.heap.size:=by omega
 clear hs2 k2 hg jc pA kq hbq hres hE hz0 hsz0;generalize w2.heap.size=gx at *;generalize lv s=es at *
 go_loopg [] (L.length+1) (fun gk wr=>∃(x:ax) (cs:List Value) (s':PS),Hid (qI L lv level gk x s'=RES)/\L.length-s'.i<gk/\Hid (N9 b t rest L LA Lc w.heap.size gx (w.heap.size+1) w x cs s' wr)/\Hid (bf L s s'))
 case atStart=>exact⟨es.1,_,es.2,aG,by omega,qL,HG0⟩
 case round=>
  clear qL HG0 aG;obtain⟨x,cs,s',hrec,hlt,HV,nP⟩:=hrel;obtain⟨wo,rfl⟩:∃wo:World,wo=wr:=⟨_,rfl⟩
  obtain⟨k,rfl⟩:∃k,gk=k+1:=⟨gk-1,by omega⟩
  obtain⟨z0,z1,z2,z3,z4,z5,z6,rfl,hz⟩:=HV.out.ok.seven;have hrec:=hrec.out;rw[GZ]at hrec;have d3:=HV.out.st.c3
  by_cases herr:s'.err=0
  case neg=>
   as_aux_lemma=>
   rw[if_pos herr]at hrec;have zAw:((s'.err:Int)==0)=false:=zB (by omega)
   have V:=HV.out;clear HV qm Oa En UB HIS Pn;have e0:wo.cell? ⟨gx,0,none⟩=some (z0):=V.kx.cell 0;have e1:wo.cell? ⟨gx,1,none⟩=some (z1):=V.kx.cell 1;have e2:wo.cell? ⟨gx,2,none⟩=some (z2):=V.kx.cell 2;have e3:wo.cell? ⟨gx,3,none⟩=some (z3):=V.kx.cell 3;have e4:wo.cell? ⟨gx,4,none⟩=some (z4):=V.kx.cell 4;have e5:wo.cell? ⟨gx,5,none⟩=some (z5):=V.kx.cell 5;have e6:wo.cell? ⟨gx,6,none⟩=some (z6):=V.kx.cell 6;have kr:=V.kr;go_wp2_with (first|(refine ae bV rfl _ _ rfl rfl [z0,z1,z2,z3,z4,z5,z6] rfl kr rfl rfl hz ?_;intro w9 p9))
   obtain⟨u0,u1,u2,u3,u4,u5,u6⟩:=zc7 p9.bk;obtain⟨f1,f2,f3⟩:=V.fin hbw zL p9;refine bodyPost_ret (v:=.agg #[z0,z1,z2,z3,z4,z5,z6]) (by simp[results,Try.results80,go_sem,u0,u1,u2,u3,u4,u5,u6]) rfl ?_;rw[<-hrec];exact⟨[z0,z1,z2,z3,z4,z5,z6],rfl,f1,f2,f3⟩
  case pos=>
   rw[if_neg (by simp[herr])]at hrec;have zAw:((s'.err:Int)==0)=true:=by rw[beq_iff_eq];omega
   have jS:=zH hrec;clear hrec;go_wp2_with fail
   refine(Oa.out wo).mono ?_;rintro r w3 ⟨SA,SC,rfl,hrd,hb3⟩;have oL:=zH (HV.out.old hb3);obtain⟨sg,so,rfl,hsg,hsc⟩:=G5 hrd Pn.out;have HC:=zH hsc;have HOPD:Hid (nG L s' (dB level).2 0 ((dB level).1.drop 0) 0=Uz L level s'):=zH rfl;have xq:Hid (Uz L level s'≠0->(aY L s').kind≠0):=zH G6;have hi3:=nP.out.ok.lt;clear hrd hb3 HV Pn Oa hsc d3;generalize Uz L level s'=OP at *;generalize(dB level).1=SL at *;generalize(dB level).2=SF at *;go_wp2
   go_loopw[8,47] (fun o i wr=>∃(j op:Nat),j<=SL.length/\o=.int .i64 op/\i=.int .i64 j/\Hid (nG L s' SF j (SL.drop j) op=OP)/\Hid (Below w3.heap.size w3 wr)) (fun _ i _=>SL.length-(intOf i).toNat)
   case atStart=>exact⟨0,0,Nat.zero_le _,rfl,rfl,HOPD,zH zR⟩
   case round=>
    clear HOPD;obtain⟨j,op,hj,rfl,rfl,hop,HB⟩:=hrel;obtain⟨wi,rfl⟩:∃wi:World,wi=wr:=⟨_,rfl⟩
    by_cases hjl:j<SL.length
    ·as_aux_lemma=>
     have hcj:=(aT HB.out sg (so+j) hsg).trans (HC.out j SL[j] (List.getElem?_eq_getElem hjl));have hst:=hop.out;rw[List.drop_eq_getElem_cons hjl,G7]at hst;obtain⟨X,hX⟩:∃X,bytes SL[j]=X:=⟨_,rfl⟩
     have UA:X.toList=SL[j]:=by rw[<-hX,aF]
     rw[hX]at hcj;clear hop hX HC;generalize SL[j]=wd at *;obtain⟨bi,hbi⟩:∃z,eX L s' wd=z:=⟨_,rfl⟩
     have hcall:=HIS.out s' wi X wd UA nP.out.ok (oL.out.old HB.out).st;rw[hbi]at hst hcall;have HST:=zH hst;have MG:=zH hcall;clear hst hcall UA;cases bi
     case false=>
      go_wp2_with fail
      refine MG.out.mono ?_;rintro r w4 ⟨rfl,hb4⟩;have HB4:=zH (Below.trans HB.out (hb4.mono (Below.size HB.out)));clear MG hb4 hcj;go_wp2
      go_roundw
      case rel=>exact⟨j+1,op,by omega,rfl,by go_num,HST,HB4⟩
      case measure=>simp[intOf];omega
     case true=>
      go_wp2_with fail
      refine MG.out.mono ?_;rintro r w4 ⟨rfl,hb4⟩;have HB4:=zH (Below.trans HB.out (hb4.mono (Below.size HB.out)));clear MG hb4 hcj;go_wp2
      go_roundw
      case rel=>exact⟨j+1,SF+j,by omega,by go_num,by go_num,HST,HB4⟩
      case measure=>simp[intOf];omega
    ·obtain rfl:j=SL.length:=by omega
     have hst:=hop.out;rw[List.drop_eq_nil_of_le zL]at hst;have hst:op=OP:=hst;subst hst;have V3:=oL.out.old HB.out;clear hop HB oL HC hsg
     by_cases hO:op=0
     case pos=>
      as_aux_lemma=>
      have hrec:=jS.out;rw[if_pos hO]at hrec;subst hO;clear jS;have e0:wi.cell? ⟨gx,0,none⟩=some (z0):=V3.kx.cell 0;have e1:wi.cell? ⟨gx,1,none⟩=some (z1):=V3.kx.cell 1;have e2:wi.cell? ⟨gx,2,none⟩=some (z2):=V3.kx.cell 2;have e3:wi.cell? ⟨gx,3,none⟩=some (z3):=V3.kx.cell 3;have e4:wi.cell? ⟨gx,4,none⟩=some (z4):=V3.kx.cell 4;have e5:wi.cell? ⟨gx,5,none⟩=some (z5):=V3.kx.cell 5;have e6:wi.cell? ⟨gx,6,none⟩=some (z6):=V3.kx.cell 6;have kr:=V3.kr;go_wp2_with (first|(refine ae bV rfl _ _ rfl rfl [z0,z1,z2,z3,z4,z5,z6] rfl kr rfl rfl hz ?_;intro w9 p9))
      obtain⟨u0,u1,u2,u3,u4,u5,u6⟩:=zc7 p9.bk;obtain⟨f1,f2,f3⟩:=V3.fin hbw zL p9;refine bodyPost_ret (v:=.agg #[z0,z1,z2,z3,z4,z5,z6]) (by simp[results,Try.results80,go_sem,u0,u1,u2,u3,u4,u5,u6]) rfl ?_;rw[<-hrec];exact⟨[z0,z1,z2,z3,z4,z5,z6],rfl,f1,f2,f3⟩
     case neg=>
     have hOI:((op:Int)==0)=false:=zB (by omega)
     have hrec:=jS.out;rw[if_neg hO]at hrec;have hkd:=xq.out hO;have hgn:=En.out s' nP.out.ok hkd;have hgl:=Yu.out (aI s') hgn.ok;have hi4:s'.i+1<=(lv (aI s')).2.i:=hgl.le;have hi5:=hgl.ok.lt;have hle2:s.i<=(aI s').i:=Nat.le_trans nP.out.le (Nat.le_succ _);have HGO2:=zH ((nP.out.trans hgn).trans hgl);have UC:=zH (qm.out (aI s'));have hok2:=hgn.ok;have vU:=zH hrec;clear jS xq En HIS qm Yu hrec hkd hgn hgl;go_wp2_with fail
     refine(UB.out s' _ nP.out.ok V3.st).mono ?_;rintro r w5 ⟨rfl,hb5⟩;have V5:=V3.old hb5;have d1:=V5.st.c1;have f1:=V5.st.fr 1;have hn6:=step_next b t rest L LA Lc s' w5 V5.st;have V6:=V5.step hbw hbx (by omega) hn6.st hn6.grown;unfold az.val;generalize(aY L s').pos=pos at *;clear V3 hb5 UB V5 hn6;go_upto_region 21 with fail
     clear d1 f1;have vV:=V6.st;have hgx:=V6.kx.lt;have kx6:=V6.kx;generalize w5.setCell ⟨b,1,none⟩ (.int .i64 ((s'.i:Int)+1))=W6 at *;generalize lv (aI s')=ry at *;generalize aI s'=sn at *
     refine wr 5 (some b) [.is (.int .i64 op),.is (.agg #[z0,z1,z2,z3,z4,z5,z6]),.is (.pointer (some ⟨b,0,none⟩)),.is (.int .i64 level),.is (.int .i64 ((level:Int)+1)),
      .st (fun v W=>∃ys,v=.agg ys.toArray/\Xk b t rest L LA Lc W6.heap.size ry.1 ry.2 ys W) (by rintro v w w' hb ⟨ys,h1,h2⟩;exact⟨ys,h1,h2.old hb⟩),
      .st (fun v W=>∃g ys,v=.slice (some ⟨g,0,none⟩) 2 2/\W6.heap.size<=g/\Bk W g 118 ([z0,z1,z2,z3,z4,z5,z6]++ys).toArray/\Xk b t rest L LA Lc W6.heap.size ry.1 ry.2 ys W) (by rintro v w w' hb ⟨g,ys,h1,h2,h3,h4⟩;exact⟨g,ys,h1,h2,h3.old hb,h4.old hb⟩),
      .is (.int .i64 pos),
      .st (fun v W=>∃g ys,v=.agg (opC op g 2 pos).toArray/\W6.heap.size<=g/\Bk W g 118 ([z0,z1,z2,z3,z4,z5,z6]++ys).toArray/\Xk b t rest L LA Lc W6.heap.size ry.1 ry.2 ys W) (by rintro v w w' hb ⟨g,ys,h1,h2,h3,h4⟩;exact⟨g,ys,h1,h2,h3.old hb,h4.old hb⟩)] [1,4,5,6,8] (by kernel_rfl) (by kernel_rfl) (by kernel_rfl)
      (fun C=>.c (ah.x (rG _) C rfl (fun _ _=>rfl)) <|
      .c (ah.a (rG _) [] [5] (by kernel_rfl) fun qK qa wr hG qO qF hK=>?_) <|
      .c (ah.x (rG _) C rfl (fun _ _=>rfl)) <|
      .c (ah.x (rG _) C rfl (fun _ _=>rfl)) <|
      .c (ah.z (rG _) [3] [] (by kernel_rfl) fun qK qa wr hB qO qF hK=>?_) <|
      .c (ah.g [2,4] [] (by kernel_rfl) fun qK qa wr hB qO qF hK=>?_) <|
      .c (ah.q (rG _) [1,5] [] (by kernel_rfl) fun qK qa wr hG qO qF hK=>?_) <|
      .c (ah.x (rG _) C rfl (fun _ _=>rfl)) <|
      .c (ah.q (rG _) [0,6,7] [] (by kernel_rfl) fun qK qa wr hG qO qF hK=>?_) <| .nil) ?_
     ·have e5:qa.tmps[5]? =some (.pointer (some ⟨gx,0,none⟩)):=qO.1.trans rfl;clear qO qF;have Xl:=kx6.grown hG (aA (by omega));have r0:wr.cell? ⟨gx,0,none⟩=some z0:=Xl.cell 0;have r1:wr.cell? ⟨gx,1,none⟩=some z1:=Xl.cell 1;have r2:wr.cell? ⟨gx,2,none⟩=some z2:=Xl.cell 2;have r3:wr.cell? ⟨gx,3,none⟩=some z3:=Xl.cell 3;have r4:wr.cell? ⟨gx,4,none⟩=some z4:=Xl.cell 4;have r5:wr.cell? ⟨gx,5,none⟩=some z5:=Xl.cell 5;have r6:wr.cell? ⟨gx,6,none⟩=some z6:=Xl.cell 6;clear hG Xl;go_simp;exact hK _ zR
     ·have e75:=ay qF.1 rfl rfl;clear qO qF;have hw:=IntWalk.i64_in ((level:Int)+1) ⟨by omega,by omega⟩;go_simp;exact hK _ _ zR rfl
     ·have e74:=ay qF.1 rfl rfl;have e76:=ay qF.2.1 rfl rfl;clear qO qF;go_simp;refine(UC.out wr hok2 hle2 (vV.old hB)).mono ?_;rintro r w7 ⟨ys,rfl,hE,hs7,Xm⟩;exact hK _ _ ((below_grown hB (some b)).trans Xm) Xm.size ⟨ys,rfl,hE.more (Below.size hB),hs7⟩
     ·have e73:=Ee qF.1 rfl rfl;obtain⟨v77,e77,q77⟩:=qF.2.1;obtain⟨ys,rfl,hq⟩:∃ys:List Value,v77=.agg ys.toArray/\Xk b t rest L LA Lc W6.heap.size ry.1 ry.2 ys wr:=Sp.self.1 q77;obtain⟨y0,y1,y2,y3,y4,y5,y6,rfl,hy⟩:=hq.1.seven;have e77:qa.tmps[77]? =some (.agg #[y0,y1,y2,y3,y4,y5,y6]):=e77;clear qO qF q77;have hgs:=hG.size;have kq:=Bk.new wr 118 #[z0,z1,z2,z3,z4,z5,z6,y0,y1,y2,y3,y4,y5,y6];have hbq:Below wr.heap.size wr (wr.alloc (.cells #[z0,z1,z2,z3,z4,z5,z6,y0,y1,y2,y3,y4,y5,y6] 118)):=zR.alloc zL _;have HQ:=zH hq;clear hq hG hy;go_simp;exact hK _ _ hbq ⟨_,[y0,y1,y2,y3,y4,y5,y6],rfl,hgs,kq,HQ.out.old hbq⟩
     ·have e72:=Ee qF.1 rfl rfl;obtain⟨v78,e78,q78⟩:=qF.2.1;obtain⟨gn,ys,rfl,hq⟩:=(Sp.post (by kernel_rfl)).1 q78;have e79:=Ee qF.2.2.1 rfl rfl;clear qO qF q78;have e78:qa.tmps[78]? =some (.slice (some ⟨gn,0,none⟩) 2 2):=e78;have HQ:=zH hq;clear hq hG;go_simp;exact hK _ _ zR ⟨gn,ys,rfl,HQ.out⟩
     intro qx w7 hG hR;have r80:(fun v W=>∃g ys,v=.agg (opC op g 2 pos).toArray/\W6.heap.size<=g/\Bk W g 118 ([z0,z1,z2,z3,z4,z5,z6]++ys).toArray/\Xk b t rest L LA Lc W6.heap.size ry.1 ry.2 ys W) (qx 8) w7:=hR 8 rfl rfl;clear hR;simp only[bJ,List.take_succ_cons,List.take_zero,List.drop_succ_cons,List.drop_zero,List.toList_toArray,List.length_cons,List.length_nil,Act.put,List.setIfInBounds_toArray,List.set_cons_zero,List.set_cons_succ];generalize qx 8=q80 at r80⊢;obtain⟨gn,ys,r80,hgn,hkn,hyn,hsn⟩:=r80;subst r80;have V7:=V6.step hbw hbx (by omega) hsn hG;have kx7:=V7.kx;go_upto_region 22 with(first|(refine ae bV rfl _ _ rfl rfl (opC op gn 2 pos) rfl kx7 rfl rfl rfl ?_;intro w8 p8))
     have V8:=V7.join (by omega) hbx (by omega) hgx hgn hkn hyn p8;clear V7 V6 kx7 kx6 vV hG hsn hyn hkn p8 UC
     by_cases h4:level=4
     case pos=>
      as_aux_lemma=>
      have Pm:((level:Int)==4)=true:=by rw[beq_iff_eq];omega
      have hrec:=vU.out;rw[if_pos h4]at hrec;clear vU;have e0:w8.cell? ⟨gx,0,none⟩=some (.int .i64 op):=V8.kx.cell 0;have e1:w8.cell? ⟨gx,1,none⟩=some (.slice (some ⟨gn,0,none⟩) 2 2):=V8.kx.cell 1;have e2:w8.cell? ⟨gx,2,none⟩=some (.int .i64 0):=V8.kx.cell 2;have e3:w8.cell? ⟨gx,3,none⟩=some (.int .i64 0):=V8.kx.cell 3;have e4:w8.cell? ⟨gx,4,none⟩=some (.string ⟨#[]⟩):=V8.kx.cell 4;have e5:w8.cell? ⟨gx,5,none⟩=some (.string ⟨#[]⟩):=V8.kx.cell 5;have e6:w8.cell? ⟨gx,6,none⟩=some (.int .i64 pos):=V8.kx.cell 6;have kr:=V8.kr;go_wp2_with (first|(refine ae bV rfl _ _ rfl rfl [.int .i64 op,.slice (some ⟨gn,0,none⟩) 2 2,.int .i64 0,.int .i64 0,.string ⟨#[]⟩,.string ⟨#[]⟩,.int .i64 pos] rfl kr rfl rfl rfl ?_;intro w9 p9))
      obtain⟨u0,u1,u2,u3,u4,u5,u6⟩:=zc7 p9.bk;obtain⟨f1,f2,f3⟩:=V8.fin hbw zL p9;refine bodyPost_ret (v:=.agg #[.int .i64 op,.slice (some ⟨gn,0,none⟩) 2 2,.int .i64 0,.int .i64 0,.string ⟨#[]⟩,.string ⟨#[]⟩,.int .i64 pos]) (by simp[results,Try.results80,go_sem,u0,u1,u2,u3,u4,u5,u6]) rfl ?_;rw[<-hrec];exact⟨[.int .i64 op,.slice (some ⟨gn,0,none⟩) 2 2,.int .i64 0,.int .i64 0,.string ⟨#[]⟩,.string ⟨#[]⟩,.int .i64 pos],rfl,f1,f2,f3⟩
     case neg=>
      as_aux_lemma=>
      have Pm:((level:Int)==4)=false:=zB (by omega)
      have hrec:=vU.out;rw[if_neg h4]at hrec;have HR:=zH hrec;have HV:=zH V8;clear vU hrec V8;go_wp2
      go_roundg k
      case measure=>omega
      case rel=>exact⟨_,_,ry.2,HR,by omega,HV,HGO2⟩
end
end Go.Proofs.Ytbjnhllkdilpfaa
