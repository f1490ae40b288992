/- Part 15 of the proof. No conditions. -/
import Derived.Test.YtbjnhllkdilpfaaGreatZf14
set_option linter.unusedVariables false
set_option linter.unusedSimpArgs false
set_option maxRecDepth 100000
set_option maxHeartbeats 16000000
namespace Go.Proofs.YtbjnhllkdilpfaaGreat
open Go.RowKit _root_.Go.Proofs.Tryz
section
variable {L:List aC}
theorem yN (f a:Nat) (s:PS):aW L (f+1) a s=if s.err≠0 then(BG,s)else if a=3\/a=7 then sN L f a s else if a=8 then pR L (aW L f 1) s else rQ L (aW L f (a+1)) a (L.length+1) (aW L f (a+1) s).1 (aW L f (a+1) s).2:=by
 rw[aW];rfl
theorem Ce (b:PS->az×PS) (a k:Nat) (x:az) (s:PS):rQ L b a (k+1) x s=if s.err≠0 then(x,s)else if WZ L a s=0 then(x,s)else if a=4 then(.bin (WZ L a s) x (b (aO s)).1 (bC L s).pos,(b (aO s)).2)else rQ L b a k (.bin (WZ L a s) x (b (aO s)).1 (bC L s).pos) (b (aO s)).2:=rfl
end
structure QJ (b:Nat) (t:TypeId) (rest:List Value) (L:List aC) (LA:Option Addr) (Lc:Nat) (gr gx B:Nat) (w:World) (x:az) (cs:List Value) (s:PS) (W:World):Prop where
 st:dH b t rest L LA Lc s W
 kr:Bk W gr 110 #[(),"",(),(),.string ⟨#[]⟩,.string ⟨#[]⟩,()]
 kx:Bk W gx 110 cs.toArray
 ok:mM (λg=>B<=g/\g≠gx) W x cs
 gw:w.grownBy W (some b)
section
variable {b:Nat} {t:TypeId} {rest:List Value} {L:List aC} {LA:Option Addr} {Lc:Nat} {gr gx B:Nat} {w W W':World} {x:az} {cs:List Value} {s s':PS}
theorem QJ.old (h:QJ b t rest L LA Lc gr gx B w x cs s W) (hb:Below W W W'):QJ b t rest L LA Lc gr gx B w x cs s W':=
 ⟨h.st.old hb,h.kr.old hb,h.kx.old hb,h.ok.old hb,h.gw.trans (below_grown hb (some b))⟩
theorem QJ.fin (h:QJ b t rest L LA Lc gr gx (gr+1) w x cs s W) (a:b<gr) (d:w.heap.size<=gr) (c:qC W gr 110 cs.toArray W'):mM (λg=>w.heap.size<=g) W' x cs/\dH b t rest L LA Lc s W'/\w.grownBy W' (some b):=
 ⟨h.ok.keep λg f e=>⟨by omega,c.other g (by omega)⟩,h.st.fE c a,fC h.gw c d⟩
theorem QJ.step (h:QJ b t rest L LA Lc gr gx B w x cs s W) (f:b<gr) (j:b<gx) (i:b<B) (c:dH b t rest L LA Lc s' W') (a:W.grownBy W' (some b)):QJ b t rest L LA Lc gr gx B w x cs s' W':=
 ⟨c,h.kr.grown a (aG (by omega)),h.kx.grown a (aG (by omega)),h.ok.keep λg e d=>⟨e,a.block g d (by intro e;injection e with e;omega)⟩,h.gw.trans a⟩
end
section
variable {b:Nat} {t:TypeId} {rest:List Value} {L:List aC} {LA:Option Addr} {Lc:Nat} {gr gx B:Nat} {w W W':World} {x:az} {cs:List Value} {s s':PS}
theorem QJ.join (h:QJ b t rest L LA Lc gr gx (gr+1) w x cs s W) (n:gr<gx) (e:b<gx) (m:w.heap.size<=gx) {g i op pos:Nat} {y:az} {f:List Value} (o:gx<i) (k:i<=g) (l:Bk W g 110 (cs++f).toArray) (j:mM (λg=>i<=g) W y f) (a:qC W gx 110 (opC op g 2 pos).toArray W'):QJ b t rest L LA Lc gr gx (gr+1) w (.bin op x y pos) (opC op g 2 pos) s W':=
 ⟨h.st.fE a e,a.zJ h.kr (by omega),a.bk,⟨g,cs,f,rfl,⟨by omega,by omega⟩,a.zJ l (by omega),h.ok.keep λq c d=>⟨c,a.other q c.2⟩,j.keep λq c d=>⟨⟨by omega,by omega⟩,a.other q (by omega)⟩⟩,fC h.gw a m⟩
end
def Zn (b:Nat) (t:TypeId) (rest:List Value) (L:List aC) (LA:Option Addr) (Lc B:Nat) (y:az) (s:PS) (ys:List Value) (W:World):Prop:=
 mM (λg=>B<=g) W y ys/\dH b t rest L LA Lc s W
theorem Zn.old {b:Nat} {t:TypeId} {rest:List Value} {L:List aC} {LA:Option Addr} {Lc B:Nat} {y:az} {s:PS} {a:List Value} {W W':World} (h:Zn b t rest L LA Lc B y s a W) (hb:Below W W W'):Zn b t rest L LA Lc B y s a W':=⟨h.1.old hb,h.2.old hb⟩
theorem Rd.some {w:World} {B:Nat} {A:Option Addr} {c:Value} {cs:List Value} (h:Rd w B A (c::cs)):∃g o,A=some ⟨g,o,none⟩/\g<B/\∀(j:Nat) (u:Value),(c::cs)[j]? =some u->w.cell? ⟨g,o+j,none⟩=some u:=by
 rcases h with h|h
 ·simp at h
 obtain⟨g,o,a,d,b⟩:=h;exact⟨g,o,a,d,b⟩
theorem Je {w:World} {B a:Nat} {A:Option Addr} (h:Rd w B A ((dN a).1.map λx=>Value.string (bytes x))) (c:∃x l,(dN a).1=x::l):∃g o,A=some ⟨g,o,none⟩/\g<B/\∀(j:Nat) (u:Str),(dN a).1[j]? =some u->w.cell? ⟨g,o+j,none⟩=some (.string (bytes u)):=by
 obtain⟨x,l,b⟩:=c;rw[b]at h⊢;obtain⟨g,o,d,i,e⟩:=Rd.some h;exact⟨g,o,d,i,λj u f=>e j _ (by have:=zGv (Option.map λx=>Value.string (bytes x)) f;rw[<-zG2]at this;exact this)⟩
section
variable (b:Nat) (t:TypeId) (rest:List Value) (L:List aC) (LA:Option Addr) (Lc:Nat)
theorem zQ {L:List aC} {s:PS} (a:∀x,fD L s x=false):∀(l:List Str) (f i op:Nat),oQ L s f i l op=op
 |[],_,_,_=>rfl
 |x::l,f,i,op=>by show oQ L s f (i+1) l (if fD L s x=true then f+i else op)=op;rw[a x];exact zQ a l _ _ _
theorem Jf {L:List aC} {a:Nat} {s:PS} (h:WZ L a s≠0):(bC L s).kind≠0:=by
 intro b;exact h (zQ (λx=>by rw[Bi,b];rfl) _ _ _ _)
theorem Jg (L:List aC) (s:PS) (f i op:Nat) (x:Str) (l:List Str):oQ L s f i (x::l) op=oQ L s f (i+1) l (if fD L s x=true then f+i else op):=rfl
theorem Jh (a:Nat):(dN a).1.length<=6/\(dN a).2<=14:=by
 unfold dN;split<;>simp
theorem MO {a:Nat} (c:1<=a) (f:a<=8) (e:¬a=3) (b:¬a=7) (d:¬a=8):∃x l,(dN a).1=x::l:=by
 obtain rfl|rfl|rfl|rfl|rfl:a=1\/a=2\/a=4\/a=5\/a=6:=by omega
 all_goals exact⟨_,_,rfl⟩
theorem MP (f:Nat) (IH:Ub b t rest L LA Lc f) (d:Nat) (s:PS) (w:World) (b3:1<=d) (al:d<=8) (h:dH b t rest L LA Lc s w) (he:dS L) (hi:iy L s) (hL:L.length<=4001) (hf:10*(L.length-s.i)+(9-d)<=f+1):
  Calls prog 87 #[.pointer (some ⟨b,0,none⟩),d] w (jO b t rest L LA Lc (aW L (f+1) d s) w):=by
 have D:=h.bk.lt;have HS:=zH h;have b6:=hi.lt;have b5:=hi.opn;rw[yN]
 by_cases M:s.err=0
 case neg=>
  as_aux_lemma=>
  rw[zF3 M];have jA:((s.err:Int)==0)=false:=zB (by omega)
  clear IH h
  go_enter func87,ntmps87
  have K:Bk (w.alloc (.cells #[(),"",(),(),.string ⟨#[]⟩,.string ⟨#[]⟩,()] 110)) w.heap.size 110 #[(),"",(),(),.string ⟨#[]⟩,.string ⟨#[]⟩,()]:=Bk.new w 110 _;have n:Below w w (w.alloc (.cells #[(),"",(),(),.string ⟨#[]⟩,.string ⟨#[]⟩,()] 110)):=zR.alloc zL _;have l:=HS.old n;have d3:=l.c3;go_wp2_with (first|(refine ae cZ rfl _ _ rfl rfl [.int .i64 0,.slice none 0 0,.int .i64 0,.int .i64 0,.string ⟨#[]⟩,.string ⟨#[]⟩,.int .i64 0] rfl K rfl rfl rfl ?_;intro w9 p))
  obtain⟨u0,u1,u2,u3,u4,u5,u6⟩:=zc7 p.bk;refine zFg (v:=.agg #[(),"",(),(),.string ⟨#[]⟩,.string ⟨#[]⟩,()]) (by simp[results,results87,go_sem,u0,u1,u2,u3,u4,u5,u6]) rfl ?_;exact⟨[.int .i64 0,.slice none 0 0,.int .i64 0,.int .i64 0,.string ⟨#[]⟩,.string ⟨#[]⟩,.int .i64 0],rfl,rfl,l.fE p D,fC (below_grown n (some b)) p zL⟩
 case pos=>
 rw[zF2 (by simp[M])]
 by_cases h3:d=3
 case pos=>
  as_aux_lemma=>
  subst h3;rw[zF3 (.inl rfl)];have jA:((s.err:Int)==0)=true:=by rw[zFt];omega
  have e:Hid (∀W:World,dH b t rest L LA Lc s W->Calls prog 100 #[.pointer (some ⟨b,0,none⟩),.int .i64 3] W (jO b t rest L LA Lc (sN L f 3 s) W)):=zH λW h=>Jc b t rest L LA Lc f IH s W h he hi hL (by omega)
  generalize sN L f 3 s=a3 at *;clear IH h
  go_enter func87,ntmps87
  have K:Bk (w.alloc (.cells #[(),"",(),(),.string ⟨#[]⟩,.string ⟨#[]⟩,()] 110)) w.heap.size 110 #[(),"",(),(),.string ⟨#[]⟩,.string ⟨#[]⟩,()]:=Bk.new w 110 _;have n:Below w w (w.alloc (.cells #[(),"",(),(),.string ⟨#[]⟩,.string ⟨#[]⟩,()] 110)):=zR.alloc zL _;have l:=HS.old n;have Q:=K.lt;have d3:=l.c3;go_wp2_with fail
  refine(e.out _ l).mono ?_;rintro r w2 ⟨cs,rfl,hE,J,m⟩;obtain⟨I,B,G,F,E,y,A,rfl,hy⟩:=hE.seven;have k2:=K.grown m (aG (by omega));have hg:=(below_grown n (some b)).trans m;clear l K e m d3;go_wp2_with (first|(refine ae cZ rfl _ _ rfl rfl [I,B,G,F,E,y,A] rfl k2 rfl rfl hy ?_;intro w9 p))
  obtain⟨u0,u1,u2,u3,u4,u5,u6⟩:=zc7 p.bk;refine zFg (v:=.agg #[I,B,G,F,E,y,A]) (by simp[results,results87,go_sem,u0,u1,u2,u3,u4,u5,u6]) rfl ?_;exact⟨[I,B,G,F,E,y,A],rfl,(hE.put p Q).more (by omega),J.fE p D,fC hg p zL⟩
 case neg=>
 by_cases h7:d=7
 case pos=>
  as_aux_lemma=>
  subst h7;rw[zF3 (.inr rfl)];have jA:((s.err:Int)==0)=true:=by rw[zFt];omega
  have e:Hid (∀W:World,dH b t rest L LA Lc s W->Calls prog 100 #[.pointer (some ⟨b,0,none⟩),.int .i64 7] W (jO b t rest L LA Lc (sN L f 7 s) W)):=zH λW h=>Jd b t rest L LA Lc f IH s W h he hi hL (by omega)
  generalize sN L f 7 s=a3 at *;clear IH h
  go_enter func87,ntmps87
  have K:Bk (w.alloc (.cells #[(),"",(),(),.string ⟨#[]⟩,.string ⟨#[]⟩,()] 110)) w.heap.size 110 #[(),"",(),(),.string ⟨#[]⟩,.string ⟨#[]⟩,()]:=Bk.new w 110 _;have n:Below w w (w.alloc (.cells #[(),"",(),(),.string ⟨#[]⟩,.string ⟨#[]⟩,()] 110)):=zR.alloc zL _;have l:=HS.old n;have Q:=K.lt;have d3:=l.c3;go_wp2_with fail
  refine(e.out _ l).mono ?_;rintro r w2 ⟨cs,rfl,hE,J,m⟩;obtain⟨I,B,G,F,E,y,A,rfl,hy⟩:=hE.seven;have k2:=K.grown m (aG (by omega));have hg:=(below_grown n (some b)).trans m;clear l K e m d3;go_wp2_with (first|(refine ae cZ rfl _ _ rfl rfl [I,B,G,F,E,y,A] rfl k2 rfl rfl hy ?_;intro w9 p))
  obtain⟨u0,u1,u2,u3,u4,u5,u6⟩:=zc7 p.bk;refine zFg (v:=.agg #[I,B,G,F,E,y,A]) (by simp[results,results87,go_sem,u0,u1,u2,u3,u4,u5,u6]) rfl ?_;exact⟨[I,B,G,F,E,y,A],rfl,(hE.put p Q).more (by omega),J.fE p D,fC hg p zL⟩
 case neg=>
 by_cases h8:d=8
 case pos=>
  as_aux_lemma=>
  subst h8;rw[zF2 (by simp),zF3 rfl];have jA:((s.err:Int)==0)=true:=by rw[zFt];omega
  have e:Hid (∀W:World,dH b t rest L LA Lc s W->Calls prog 101 #[.pointer (some ⟨b,0,none⟩)] W (jO b t rest L LA Lc (pR L (aW L f 1) s) W)):=zH λW h=>Uc b t rest L LA Lc f IH s W h he hi hL (by omega)
  generalize pR L (aW L f 1) s=a3 at *;clear IH h
  go_enter func87,ntmps87
  have K:Bk (w.alloc (.cells #[(),"",(),(),.string ⟨#[]⟩,.string ⟨#[]⟩,()] 110)) w.heap.size 110 #[(),"",(),(),.string ⟨#[]⟩,.string ⟨#[]⟩,()]:=Bk.new w 110 _;have n:Below w w (w.alloc (.cells #[(),"",(),(),.string ⟨#[]⟩,.string ⟨#[]⟩,()] 110)):=zR.alloc zL _;have l:=HS.old n;have Q:=K.lt;have d3:=l.c3;go_wp2_with fail
  refine(e.out _ l).mono ?_;rintro r w2 ⟨cs,rfl,hE,J,m⟩;obtain⟨I,B,G,F,E,y,A,rfl,hy⟩:=hE.seven;have k2:=K.grown m (aG (by omega));have hg:=(below_grown n (some b)).trans m;clear l K e m d3;go_wp2_with (first|(refine ae cZ rfl _ _ rfl rfl [I,B,G,F,E,y,A] rfl k2 rfl rfl hy ?_;intro w9 p))
  obtain⟨u0,u1,u2,u3,u4,u5,u6⟩:=zc7 p.bk;refine zFg (v:=.agg #[I,B,G,F,E,y,A]) (by simp[results,results87,go_sem,u0,u1,u2,u3,u4,u5,u6]) rfl ?_;exact⟨[I,B,G,F,E,y,A],rfl,(hE.put p Q).more (by omega),J.fE p D,fC hg p zL⟩
 case neg=>
 have u:¬(d=3\/d=7):=by omega
 rw[zF2 u,zF2 h8];have jA:((s.err:Int)==0)=true:=by rw[zFt];omega
 have b8:((d:Int)==3)=false:=zB (by omega)
 have br:((d:Int)==7)=false:=zB (by omega)
 have bv:((d:Int)==8)=false:=zB (by omega)
 have sJ:Hid (∀(s':PS) (W:World),iy L s'->s.i<=s'.i->dH b t rest L LA Lc s' W->Calls prog 87 #[.pointer (some ⟨b,0,none⟩),.int .i64 ((d:Int)+1)] W (jO b t rest L LA Lc (aW L f (d+1) s') W)):=zH λs' W aq bt h=>by
  have:=IH (d+1) s' W (by omega) (by omega) h aq (by have:=aq.lt;omega)
  rwa [show(((d+1:Nat)):Int)=(d:Int)+1 by omega]at this
 have a9:Hid (∀s',iy L s'->bF L s' (aW L f (d+1) s').2):=zH λs' h=>fO he f (d+1) s' h
 have Iq:Hid (∀W,Calls prog 90 #[d] W (Gu d W)):=zH λW=>EW d al W
 have EF:Hid (∀s',iy L s'->(bC L s').kind≠0->bF L s' (aO s')):=zH λs' h e=>bF.next he h e
 have Xc:Hid (∀(s':PS) (W:World),iy L s'->dH b t rest L LA Lc s' W->Calls prog 58 #[.pointer (some ⟨b,0,none⟩)] W λe w'=>e=.returned (bC L s').val/\Below W.heap.size W w'):=zH λs' W ho h=>uq b t rest L LA Lc s' W h ho.lt hL
 have a8:Hid (∀(s':PS) (W:World) (S:ByteArray) (x:Str),S.toList=x->iy L s'->dH b t rest L LA Lc s' W->Calls prog 37 #[.pointer (some ⟨b,0,none⟩),S] W λr w'=>r=.returned (.bool (fD L s' x))/\Below W.heap.size W w'):=zH λs' W S x hx ho h=>by
  have:=mP b t rest L LA Lc s' W S h ho.lt hL
  rwa [hx]at this
 generalize aW L f (d+1)=lv at *;obtain⟨a3,e⟩:=zN (rQ L lv d (L.length+1) (lv s).1 (lv s).2)
 rw[e];have SY:=zH (MO b3 al h3 h7 h8);obtain⟨bw,bb⟩:=Jh d;clear IH h u
 go_enter func87,ntmps87
 have K:Bk (w.alloc (.cells #[(),"",(),(),.string ⟨#[]⟩,.string ⟨#[]⟩,()] 110)) w.heap.size 110 #[(),"",(),(),.string ⟨#[]⟩,.string ⟨#[]⟩,()]:=Bk.new w 110 _;have n:Below w w (w.alloc (.cells #[(),"",(),(),.string ⟨#[]⟩,.string ⟨#[]⟩,()] 110)):=zR.alloc zL _;have l:=HS.old n;have Q:=K.lt;have d3:=l.c3;go_wp2_with fail
 refine(sJ.out s _ hi zL l).mono ?_;rintro r w2 ⟨cs,rfl,hE,J,m⟩;obtain⟨I,B,G,F,E,y,A,rfl,hy⟩:=hE.seven;have k2:=K.grown m (aG (by omega));have hg:=(below_grown n (some b)).trans m;have bd:=k2.lt;have kq:Bk (w2.alloc (.cells #[(),"",(),(),.string ⟨#[]⟩,.string ⟨#[]⟩,()] 110)) w2.heap.size 110 #[(),"",(),(),.string ⟨#[]⟩,.string ⟨#[]⟩,()]:=Bk.new w2 110 _;have a1:Below w2 w2 (w2.alloc (.cells #[(),"",(),(),.string ⟨#[]⟩,.string ⟨#[]⟩,()] 110)):=zR.alloc zL _;have H:(w.alloc (.cells #[(),"",(),(),.string ⟨#[]⟩,.string ⟨#[]⟩,()] 110)).heap.size=w.heap.size+1:=by simp
 clear l K m d3 jA M;go_wp2_with (first|(refine ae cZ rfl _ _ rfl rfl [I,B,G,F,E,y,A] rfl kq rfl rfl hy ?_;intro wA M;go_frame))
 have u:Below w2 w2 wA:=M.below _ _ a1 zL;have sO:Hid (QJ b t rest L LA Lc w.heap.size w2.heap.size (w.heap.size+1) w (lv s).1 [I,B,G,F,E,y,A] (lv s).2 wA):=zH ⟨J.old u,k2.old u,M.bk,hE.keep λg N ao=>⟨⟨by omega,by omega⟩,u.block g ao⟩,hg.trans (below_grown u (some b))⟩;have av:=zH (a9.out s hi);have aH:=zH e;have aa:b<w2.heap.size:=by omega
 clear J k2 hg u M kq a1 e hE Q H;generalize w2.heap.size=gx at *;generalize lv s=es at *
 go_loopg [] (L.length+1) (λgk wr=>∃(x:az) (cs:List Value) (s':PS),Hid (rQ L lv d gk x s'=a3)/\L.length-s'.i<gk/\Hid (QJ b t rest L LA Lc w.heap.size gx (w.heap.size+1) w x cs s' wr)/\Hid (bF L s s'))
 case atStart=>exact⟨es.1,_,es.2,aH,by omega,sO,av⟩
 case round=>
  clear sO av aH;obtain⟨x,cs,s',e,ao,HV,wZ⟩:=hrel;obtain⟨wo,rfl⟩:∃wo:World,wo=wr:=⟨_,rfl⟩
  obtain⟨k,rfl⟩:∃k,gk=k+1:=⟨gk-1,by omega⟩
  obtain⟨R,N,Y,O,P,U,Z,rfl,hz⟩:=HV.ok.seven;have e:=e.out;rw[Ce]at e;have d3:=HV.st.c3
  by_cases a6:s'.err=0
  case neg=>
   as_aux_lemma=>
   rw[zF3 a6]at e;have b2:((s'.err:Int)==0)=false:=zB (by omega)
   have V:=HV.out;clear HV sJ Iq EF Xc a8 SY;have e0:wo.cell? ⟨gx,0,none⟩=some (R):=V.kx.cell 0;have e1:wo.cell? ⟨gx,1,none⟩=some (N):=V.kx.cell 1;have e2:wo.cell? ⟨gx,2,none⟩=some (Y):=V.kx.cell 2;have e3:wo.cell? ⟨gx,3,none⟩=some (O):=V.kx.cell 3;have e4:wo.cell? ⟨gx,4,none⟩=some (P):=V.kx.cell 4;have e5:wo.cell? ⟨gx,5,none⟩=some (U):=V.kx.cell 5;have e6:wo.cell? ⟨gx,6,none⟩=some (Z):=V.kx.cell 6;have kr:=V.kr;go_wp2_with (first|(refine ae cZ rfl _ _ rfl rfl [R,N,Y,O,P,U,Z] rfl kr rfl rfl hz ?_;intro w9 p))
   obtain⟨u0,u1,u2,u3,u4,u5,u6⟩:=zc7 p.bk;obtain⟨f1,f2,f3⟩:=V.fin D zL p;refine zFg (v:=.agg #[R,N,Y,O,P,U,Z]) (by simp[results,results87,go_sem,u0,u1,u2,u3,u4,u5,u6]) rfl ?_;rw[<-e];exact⟨[R,N,Y,O,P,U,Z],rfl,f1,f2,f3⟩
  case pos=>
   rw[zF2 (by simp[a6])]at e;have b2:((s'.err:Int)==0)=true:=by rw[zFt];omega
   have lI:=zH e;clear e;go_wp2_with fail
   refine(Iq.out wo).mono ?_;rintro r w3 ⟨SA,SC,rfl,u,H⟩;have yG:=zH (HV.old H);obtain⟨sg,so,rfl,af,M⟩:=Je u SY.out;have HC:=zH M;have a5:Hid (oQ L s' (dN d).2 0 ((dN d).1.drop 0) 0=WZ L d s'):=zH rfl;have vV:Hid (WZ L d s'≠0->(bC L s').kind≠0):=zH Jf;have bq:=wZ.ok.lt;clear u H HV SY Iq M d3;generalize WZ L d s'=OP at *;generalize(dN d).1=SL at *;generalize(dN d).2=SF at *;go_wp2
   go_loopw[8,47] (λo i wr=>∃(j op:Nat),j<=SL.length/\o=.int .i64 op/\i=.int .i64 j/\Hid (oQ L s' SF j (SL.drop j) op=OP)/\Hid (Below w3 w3 wr)) (λ_ i _=>SL.length-(intOf i).toNat)
   case atStart=>exact⟨0,0,zFj _,rfl,rfl,a5,zH zR⟩
   case round=>
    clear a5;obtain⟨j,op,hj,rfl,rfl,a2,HB⟩:=hrel;obtain⟨wi,rfl⟩:∃wi:World,wi=wr:=⟨_,rfl⟩
    by_cases ag:j<SL.length
    ·as_aux_lemma=>
     have a7:=(bK HB.out sg (so+j) af).trans (HC.out j SL[j] (zAg ag));have H:=a2.out;rw[zFk ag,Jg]at H;obtain⟨X,u⟩:=zN (bytes SL[j])
     have M:X.toList=SL[j]:=by rw[<-u,aI]
     rw[u]at a7;clear a2 u HC;generalize SL[j]=wd at *;obtain⟨bi,b0⟩:=zN (fD L s' wd)
     have u:=a8.out s' wi X wd M wZ.ok (yG.old HB.out).st;rw[b0]at H u;have aw:=zH H;have O8:=zH u;clear H u M;cases bi
     case false=>
      go_wp2_with fail
      refine O8.mono ?_;rintro r w4 ⟨rfl,u⟩;have M:=zH (zKg HB.out (u.mono (zKa HB.out)));clear O8 u a7;go_wp2
      go_roundw
      case rel=>exact⟨j+1,op,by omega,rfl,by go_num,aw,M⟩
      case measure=>simp[intOf];omega
     case true=>
      go_wp2_with fail
      refine O8.mono ?_;rintro r w4 ⟨rfl,u⟩;have M:=zH (zKg HB.out (u.mono (zKa HB.out)));clear O8 u a7;go_wp2
      go_roundw
      case rel=>exact⟨j+1,SF+j,by omega,by go_num,by go_num,aw,M⟩
      case measure=>simp[intOf];omega
    obtain rfl:j=SL.length:=by omega
    have H:=a2.out;rw[zFq zL]at H;have H:op=OP:=H;subst H;have u:=yG.old HB.out;clear a2 HB yG HC af
    by_cases hO:op=0
    case pos=>
     as_aux_lemma=>
     have e:=lI.out;rw[zF3 hO]at e;subst hO;clear lI;have e0:wi.cell? ⟨gx,0,none⟩=some (R):=u.kx.cell 0;have e1:wi.cell? ⟨gx,1,none⟩=some (N):=u.kx.cell 1;have e2:wi.cell? ⟨gx,2,none⟩=some (Y):=u.kx.cell 2;have e3:wi.cell? ⟨gx,3,none⟩=some (O):=u.kx.cell 3;have e4:wi.cell? ⟨gx,4,none⟩=some (P):=u.kx.cell 4;have e5:wi.cell? ⟨gx,5,none⟩=some (U):=u.kx.cell 5;have e6:wi.cell? ⟨gx,6,none⟩=some (Z):=u.kx.cell 6;have kr:=u.kr;go_wp2_with (first|(refine ae cZ rfl _ _ rfl rfl [R,N,Y,O,P,U,Z] rfl kr rfl rfl hz ?_;intro w9 p))
     obtain⟨u0,u1,u2,u3,u4,u5,u6⟩:=zc7 p.bk;obtain⟨f1,f2,f3⟩:=u.fin D zL p;refine zFg (v:=.agg #[R,N,Y,O,P,U,Z]) (by simp[results,results87,go_sem,u0,u1,u2,u3,u4,u5,u6]) rfl ?_;rw[<-e];exact⟨[R,N,Y,O,P,U,Z],rfl,f1,f2,f3⟩
    case neg=>
    have bl:((op:Int)==0)=false:=zB (by omega)
    have e:=lI.out;rw[zF2 hO]at e;have a4:=vV.out hO;have a0:=EF.out s' wZ.ok a4;have M:=a9.out (aO s') a0.ok;have b7:s'.i+1<=(lv (aO s')).2.i:=M.le;have bj:=M.ok.lt;have ak:s.i<=(aO s').i:=zFi wZ.le (zJ9 _);have an:=zH ((wZ.trans a0).trans M);have Bj:=zH (sJ.out (aO s'));have ax:=a0.ok;have xH:=zH e;clear lI vV EF a8 sJ a9 e a4 a0 M;go_wp2_with fail
    refine(Xc.out s' _ wZ.ok u.st).mono ?_;rintro r w5 ⟨rfl,a4⟩;have V5:=u.old a4;have d1:=V5.st.c1;have f1:=V5.st.fr 1;have M:=step_next b t rest L LA Lc s' w5 V5.st;have V6:=V5.step D aa (by omega) M.st M.grown;unfold aC.val;generalize(bC L s').pos=pos at *;clear u a4 Xc V5 M;go_upto_region 21 with fail
    clear d1 f1;have xI:=V6.st;have b1:=V6.kx.lt;have ad:=V6.kx;generalize w5.setCell ⟨b,1,none⟩ (.int .i64 ((s'.i:Int)+1))=W6 at *;generalize lv (aO s')=ry at *;generalize aO s'=sn at *
    refine wr 5 (some b) [.is (.int .i64 op),.is (.agg #[R,N,Y,O,P,U,Z]),.is (.pointer (some ⟨b,0,none⟩)),.is (.int .i64 d),.is (.int .i64 ((d:Int)+1)),
     .st (λv W=>∃u,v=.agg u.toArray/\Zn b t rest L LA Lc W6.heap.size ry.1 ry.2 u W) (by rintro v w w' hb ⟨u,h1,h2⟩;exact⟨u,h1,h2.old hb⟩),
     .st (λv W=>∃g u,v=.slice (some ⟨g,0,none⟩) 2 2/\W6.heap.size<=g/\Bk W g 110 ([R,N,Y,O,P,U,Z]++u).toArray/\Zn b t rest L LA Lc W6.heap.size ry.1 ry.2 u W) (by rintro v w w' hb ⟨g,u,h1,h2,h3,h4⟩;exact⟨g,u,h1,h2,h3.old hb,h4.old hb⟩),
     .is (.int .i64 pos),
     .st (λv W=>∃g u,v=.agg (opC op g 2 pos).toArray/\W6.heap.size<=g/\Bk W g 110 ([R,N,Y,O,P,U,Z]++u).toArray/\Zn b t rest L LA Lc W6.heap.size ry.1 ry.2 u W) (by rintro v w w' hb ⟨g,u,h1,h2,h3,h4⟩;exact⟨g,u,h1,h2,h3.old hb,h4.old hb⟩)] [1,4,5,6,8] (by kernel_rfl) (by kernel_rfl) (by kernel_rfl)
     (λC=>.c (ay.x (rG _) C rfl (λ_ _=>rfl)) <|
     .c (ay.a (rG _) [] [5] (by kernel_rfl) λqK qa wr hG qO M hK=>?_) <|
     .c (ay.x (rG _) C rfl (λ_ _=>rfl)) <|
     .c (ay.x (rG _) C rfl (λ_ _=>rfl)) <|
     .c (ay.z (rG _) [3] [] (by kernel_rfl) λqK qa wr hB qO M hK=>?_) <|
     .c (ay.g [2,4] [] (by kernel_rfl) λqK qa wr hB qO M hK=>?_) <|
     .c (ay.q (rG _) [1,5] [] (by kernel_rfl) λqK qa wr hG qO M hK=>?_) <|
     .c (ay.x (rG _) C rfl (λ_ _=>rfl)) <|
     .c (ay.q (rG _) [0,6,7] [] (by kernel_rfl) λqK qa wr hG qO M hK=>?_) <| .nil) ?_
    ·have e5:qa.tmps[5]? =some (.pointer (some ⟨gx,0,none⟩)):=qO.1.trans rfl;clear qO M;have Zo:=ad.grown hG (aG (by omega));have r0:wr.cell? ⟨gx,0,none⟩=some R:=Zo.cell 0;have r1:wr.cell? ⟨gx,1,none⟩=some N:=Zo.cell 1;have r2:wr.cell? ⟨gx,2,none⟩=some Y:=Zo.cell 2;have r3:wr.cell? ⟨gx,3,none⟩=some O:=Zo.cell 3;have r4:wr.cell? ⟨gx,4,none⟩=some P:=Zo.cell 4;have r5:wr.cell? ⟨gx,5,none⟩=some U:=Zo.cell 5;have r6:wr.cell? ⟨gx,6,none⟩=some Z:=Zo.cell 6;clear hG Zo;go_simp;exact hK _ zR
    ·have b9:=aA M.1 rfl rfl;clear qO M;have hw:=zHk ((d:Int)+1) ⟨by omega,by omega⟩;go_simp;exact hK _ _ zR rfl
    ·have bm:=aA M.1 rfl rfl;have be:=aA M.2.1 rfl rfl;clear qO M;go_simp;refine(Bj.out wr ax ak (xI.old hB)).mono ?_;rintro r w7 ⟨u,rfl,hE,ap,Zp⟩;exact hK _ _ ((below_grown hB (some b)).trans Zp) Zp.size ⟨u,rfl,hE.more (zKa hB),ap⟩
    ·have bo:=QG M.1 rfl rfl;obtain⟨b4,a4,ab⟩:=M.2.1;obtain⟨u,rfl,hq⟩:∃u:List Value,b4=.agg u.toArray/\Zn b t rest L LA Lc W6.heap.size ry.1 ry.2 u wr:=Sp.self.1 ab;obtain⟨I,B,G,F,E,y,A,rfl,hy⟩:=hq.1.seven;have a4:qa.tmps[77]? =some (.agg #[I,B,G,F,E,y,A]):=a4;clear qO M ab;have ar:=hG.size;have kq:=Bk.new wr 110 #[R,N,Y,O,P,U,Z,I,B,G,F,E,y,A];have a1:Below wr.heap.size wr (wr.alloc (.cells #[R,N,Y,O,P,U,Z,I,B,G,F,E,y,A] 110)):=zR.alloc zL _;have HQ:=zH hq;clear hq hG hy;go_simp;exact hK _ _ a1 ⟨_,[I,B,G,F,E,y,A],rfl,ar,kq,HQ.old a1⟩
    ·have bh:=QG M.1 rfl rfl;obtain⟨bs,ab,am⟩:=M.2.1;obtain⟨gn,u,rfl,hq⟩:=(Sp.post (by kernel_rfl)).1 am;have bp:=QG M.2.2.1 rfl rfl;clear qO M am;have ab:qa.tmps[78]? =some (.slice (some ⟨gn,0,none⟩) 2 2):=ab;have HQ:=zH hq;clear hq hG;go_simp;exact hK _ _ zR ⟨gn,u,rfl,HQ.out⟩
    intro qx w7 hG M;have a4:(λv W=>∃g u,v=.agg (opC op g 2 pos).toArray/\W6.heap.size<=g/\Bk W g 110 ([R,N,Y,O,P,U,Z]++u).toArray/\Zn b t rest L LA Lc W6.heap.size ry.1 ry.2 u W) (qx 8) w7:=M 8 rfl rfl;clear M;simp only[bJ,zF0,zGb,zF1,zFp,zFd,zFh,zF4,Act.put,zFf,zFw,zFx];generalize qx 8=b4 at a4⊢;obtain⟨gn,u,a4,a0,am,ab,ap⟩:=a4;subst a4;have V7:=V6.step D aa (by omega) ap hG;have ar:=V7.kx;go_upto_region 22 with(first|(refine ae cZ rfl _ _ rfl rfl (opC op gn 2 pos) rfl ar rfl rfl rfl ?_;intro w8 p8))
    have M:=V7.join (by omega) aa (by omega) b1 a0 am ab p8;clear V7 V6 ar ad xI hG ap ab am p8 Bj
    by_cases h4:d=4
    case pos=>
     as_aux_lemma=>
     have SX:((d:Int)==4)=true:=by rw[zFt];omega
     have e:=xH.out;rw[zF3 h4]at e;clear xH;have e0:w8.cell? ⟨gx,0,none⟩=some (.int .i64 op):=M.kx.cell 0;have e1:w8.cell? ⟨gx,1,none⟩=some (.slice (some ⟨gn,0,none⟩) 2 2):=M.kx.cell 1;have e2:w8.cell? ⟨gx,2,none⟩=some (.int .i64 0):=M.kx.cell 2;have e3:w8.cell? ⟨gx,3,none⟩=some (.int .i64 0):=M.kx.cell 3;have e4:w8.cell? ⟨gx,4,none⟩=some (.string ⟨#[]⟩):=M.kx.cell 4;have e5:w8.cell? ⟨gx,5,none⟩=some (.string ⟨#[]⟩):=M.kx.cell 5;have e6:w8.cell? ⟨gx,6,none⟩=some (.int .i64 pos):=M.kx.cell 6;have kr:=M.kr;go_wp2_with (first|(refine ae cZ rfl _ _ rfl rfl [.int .i64 op,.slice (some ⟨gn,0,none⟩) 2 2,.int .i64 0,.int .i64 0,.string ⟨#[]⟩,.string ⟨#[]⟩,.int .i64 pos] rfl kr rfl rfl rfl ?_;intro w9 p))
     obtain⟨u0,u1,u2,u3,u4,u5,u6⟩:=zc7 p.bk;obtain⟨f1,f2,f3⟩:=M.fin D zL p;refine zFg (v:=.agg #[op,.slice (some ⟨gn,0,none⟩) 2 2,(),(),.string ⟨#[]⟩,.string ⟨#[]⟩,pos]) (by simp[results,results87,go_sem,u0,u1,u2,u3,u4,u5,u6]) rfl ?_;rw[<-e];exact⟨[.int .i64 op,.slice (some ⟨gn,0,none⟩) 2 2,.int .i64 0,.int .i64 0,.string ⟨#[]⟩,.string ⟨#[]⟩,.int .i64 pos],rfl,f1,f2,f3⟩
    case neg=>
     as_aux_lemma=>
     have SX:((d:Int)==4)=false:=zB (by omega)
     have e:=xH.out;rw[zF2 h4]at e;have p:=zH e;have HV:=zH M;clear xH e M;go_wp2
     go_roundg k
     case measure=>omega
     case rel=>exact⟨_,_,ry.2,p,by omega,HV,an⟩
end
theorem sQ {a:Act} {d:Nat} {v:Value} (h:a.tmps[d]? =some v):a.eval (.tmp d)=v:=by
 show a.tmps.getD d undef=v
 rw[zGk,h];rfl
theorem Bl {op:Oper} {a:Act} {w:World} {K:Act->World->Prop} {Q:Exit->Act->World->Prop} {e t:TypeId} {g n:Nat} {cs:Array Value} (c:∀w,(sizeOf e).run prog w=.ok n w)
  (x y:Operand) (d:op.op=Op.store e x y) (j:a.eval x=.pointer (some ⟨g,0,none⟩)) (b:List Value) (i:a.eval y=.agg b.toArray) (h:Bk w g t cs) (f:b.length=n) (q:cs.size=n)
  (k:b.all Value.oneCell'=true) (m:∀w':World,qC w g t b.toArray w'->K (a.put op.dst undef) w'):op.wp prog a w K Q:=by
 obtain⟨w',p,l⟩:=BL (o:=0) c h b f (by omega) k;unfold Oper.wp;simp[execOp,d,j,i,p,Result.andThen];exact m _ (BK b cs (by omega)▸l)
theorem lvih (b:Nat) (t:TypeId) (a:List Value) (L:List aC) (e:Option Addr) (d:Nat) (g:dS L) (j:L.length<=4001):∀f,Ub b t a L e d f
 |0=>λc s w i k h l m=>by omega
 |f+1=>λc s w i k h l m=>MP b t a L e d f (lvih b t a L e d g j f) c s w i k h g l j m
def O9 (L:List aC) (i:Nat) (w:World) (e:Ending) (w':World):Prop:=
 ∃cs,e=.returned (.tuple #[.agg cs.toArray,.int .i64 ((mV L i).2.1:Nat),.int .i64 ((mV L i).2.2.1:Nat),.int .i64 ((mV L i).2.2.2:Nat)])/\mM (λg=>w.heap.size<=g) w' (mV L i).1 cs/\Below w w w'
theorem readB {b:Nat} {w W W':World} (h:Below b w W) (a:W.grownBy W' (some b)) (d:b<W.heap.size):Below b w W':=
 h.trans ⟨a.os,a.tape,a.output,a.size,λq c=>a.block q (Nat.lt_trans c d) (aG (by omega))⟩
theorem Ud (L:List aC) (k:Option Addr) (l i:Nat) (w:World) (M:Rd w w.heap.size k (L.flatMap aC.cells)) (he:dS L) (hi:i<L.length) (hL:L.length<=4001):
  Calls prog 59 #[.slice k L.length l,i] w (O9 L i w):=by
 have d:iy L ⟨i,0,0,0⟩:=⟨hi,zFj _⟩
 have I:Hid (∀W:World,dH (w.heap.size+1) 88 [] L k l ⟨i,0,0,0⟩ W->Calls prog 87 #[.pointer (some ⟨w.heap.size+1,0,none⟩),.int .i64 1] W (jO (w.heap.size+1) 88 [] L k l (aW L (lZ L) 1 ⟨i,0,0,0⟩) W)):=zH λW h=>lvih _ _ _ L k l he hL (lZ L) 1 _ W (by omega) (by omega) h d (by show 10*(L.length-i)+(9-1)<=10*L.length+10;omega)
 have a:mV L i=if(aW L (lZ L) 1 ⟨i,0,0,0⟩).2.err≠0 then(BG,0,(aW L (lZ L) 1 ⟨i,0,0,0⟩).2.pos,(aW L (lZ L) 1 ⟨i,0,0,0⟩).2.err)else((aW L (lZ L) 1 ⟨i,0,0,0⟩).1,(aW L (lZ L) 1 ⟨i,0,0,0⟩).2.i,0,0):=rfl
 unfold O9;generalize mV L i=a1 at *;generalize aW L (lZ L) 1 ⟨i,0,0,0⟩=e at *;obtain⟨x,f⟩:=e;simp only at a I;have Q:=zH a;have K:=zH M;clear a M d
 go_enter func59,ntmps59
 have N:Bk (w.alloc (.cells #[(),"",(),(),.string ⟨#[]⟩,.string ⟨#[]⟩,()] 110)) w.heap.size 110 #[(),"",(),(),.string ⟨#[]⟩,.string ⟨#[]⟩,()]:=Bk.new w 110 _;have p:Below w w (w.alloc (.cells #[(),"",(),(),.string ⟨#[]⟩,.string ⟨#[]⟩,()] 110)):=zR.alloc zL _;have s:(w.alloc (.cells #[(),"",(),(),.string ⟨#[]⟩,.string ⟨#[]⟩,()] 110)).heap.size=w.heap.size+1:=by simp
 have n:Below (w.alloc (.cells #[(),"",(),(),.string ⟨#[]⟩,.string ⟨#[]⟩,()] 110)).heap.size (w.alloc (.cells #[(),"",(),(),.string ⟨#[]⟩,.string ⟨#[]⟩,()] 110)) ((w.alloc (.cells #[(),"",(),(),.string ⟨#[]⟩,.string ⟨#[]⟩,()] 110)).alloc (.cells #[.slice k L.length l,i,(),(),()] 88)):=zR.alloc zL _
 have ks:Bk ((w.alloc (.cells #[(),"",(),(),.string ⟨#[]⟩,.string ⟨#[]⟩,()] 110)).alloc (.cells #[.slice k L.length l,i,(),(),()] 88)) (w.heap.size+1) 88 #[.slice k L.length l,i,(),(),()]:=by
  have:=Bk.new (w.alloc (.cells #[(),"",(),(),.string ⟨#[]⟩,.string ⟨#[]⟩,()] 110)) 88 #[.slice k L.length l,i,(),(),()]
  rwa [s]at this
 have e:=p.trans (n.mono (by omega));have o:dH (w.heap.size+1) 88 [] L k l ⟨i,0,0,0⟩ _:=⟨ks,(K.below e).more (zJ9 _)⟩
 have t:=N.old n;go_wp2_with fail
 refine(I.out _ o).mono ?_;rintro r w2 ⟨cs,rfl,H,m,d⟩;obtain⟨E,A,D,B,F,u,y,rfl,Y⟩:=H.seven;have S:w.heap.size<((w.alloc (.cells #[(),"",(),(),.string ⟨#[]⟩,.string ⟨#[]⟩,()] 110)).alloc (.cells #[.slice k L.length l,i,(),(),()] 88)).heap.size:=t.lt;have J:=t.grown d (aG (by omega))
 have j:Below w w w2:=e.trans (by
  exact⟨d.os,d.tape,d.output,d.size,λq G=>d.block q (Nat.lt_trans G S) (aG (by omega))⟩)
 have G:=H.more (B':=w.heap.size+1) (zG5 o.bk.lt);have a2:=m.bk.lt;clear N p s n ks e o t I d H K;have H:Bk (w2.alloc (.cells #[(),"",(),(),.string ⟨#[]⟩,.string ⟨#[]⟩,()] 110)) w2.heap.size 110 #[(),"",(),(),.string ⟨#[]⟩,.string ⟨#[]⟩,()]:=Bk.new w2 110 _;have n:Below w2 w2 (w2.alloc (.cells #[(),"",(),(),.string ⟨#[]⟩,.string ⟨#[]⟩,()] 110)):=zR.alloc zL _;generalize a3:w.heap.size+1=b at *;go_upto_region 5 with(first|(refine ae cZ rfl _ _ rfl rfl [E,A,D,B,F,u,y] rfl H rfl rfl Y ?_;intro s o))
 have d:Below w2 w2 s:=o.below _ _ n zL;have e:=m.old d;have K:=J.old d;have R:=zH (G.old d);have t:=j.trans (d.mono j.size);have p:=o.bk;have c1:=e.c1;have c3:=e.c3;have X:=e.c4;clear m J G j d o H n;generalize O:w.heap.size=n at *;have a6:n≠b:=by omega
 by_cases Z:f.err=0
 case neg=>
  have a:=Q.out;rw[zF3 Z]at a;have jA:((f.err:Int)==0)=false:=zB (by omega)
  clear Q p;go_upto_region 6 with fail
  refine wr 9 (some n) [.is (.agg #[(), .slice none 0 0, .int .i64 0, .int .i64 0, .string ⟨#[]⟩, .string ⟨#[]⟩, .int .i64 0]),
    .is (.pointer (some ⟨b,0,none⟩)),
    .is (.pointer (some ⟨b,0,none⟩)),
    .is (.pointer (some ⟨b,4,none⟩)),
    .is (.int .i64 (f.pos:Nat)),
    .is (.pointer (some ⟨b,0,none⟩)),
    .is (.pointer (some ⟨b,0,none⟩)),
    .is (.pointer (some ⟨b,3,none⟩)),
    .is (.int .i64 (f.err:Nat)),
    .st (λv W=>Bk W n 110 #[(),"",(),(),.string ⟨#[]⟩,.string ⟨#[]⟩,()]) (λv w w2 hb h=>h.old hb),
    .is (.int .i64 0),
    .is (.int .i64 (f.pos:Nat))] [0,9] (by kernel_rfl) (by kernel_rfl) (by kernel_rfl)
    (λC=>.c (ay.z (rG _) [] [] (by kernel_rfl) λU J wr d j o H=>?_) <|
    .c (ay.x (rG _) C rfl (λ_ _=>rfl)) <|
    .c (ay.x (rG _) C rfl (λ_ _=>rfl)) <|
    .c (ay.x (rG _) C rfl (λ_ _=>rfl)) <|
    .c (ay.x (rG _) C rfl (λwr m=>by
    have X:=(e.bk.grown m (aG (by omega))).cell 4;have X:wr.cell? ⟨b,4,none⟩=some (.int .i64 (f.pos:Nat)):=X
    exact bH (lD (by assumption)))) <|
    .c (ay.x (rG _) C rfl (λ_ _=>rfl)) <|
    .c (ay.x (rG _) C rfl (λ_ _=>rfl)) <|
    .c (ay.x (rG _) C rfl (λ_ _=>rfl)) <|
    .c (ay.x (rG _) C rfl (λwr m=>by
    have c3:wr.cell? ⟨b,3,none⟩=some (.int .i64 (f.err:Nat)):=(e.bk.grown m (aG (by omega))).cell 3
    exact bH (lD (by assumption)))) <|
    .c (ay.g [0] [4] (by kernel_rfl) λU J wr d j o H=>?_) <|
    .c (ay.x (rG _) C rfl (λ_ _=>rfl)) <|
    .c (ay.x (rG _) C rfl (λ_ _=>rfl)) <| .nil) ?_
  ·clear j o;go_simp;exact H _ _ zR rfl
  ·have e4:J.tmps[4]? =some (.pointer (some ⟨n,0,none⟩)):=j.1.trans rfl;have I:=aA o.1 rfl rfl;clear j o;exact Bl cZ _ _ rfl (sQ (by assumption)) [.int .i64 0,.slice none 0 0,.int .i64 0,.int .i64 0,.string ⟨#[]⟩,.string ⟨#[]⟩,.int .i64 0] (sQ (by assumption)) (K.old d) rfl rfl rfl (λw9 G=>H _ _ ((below_grown d _).trans G.grown) (zK5 G.size.symm) G.bk)
  intro N wr m a;have P:(λv W=>Bk W n 110 #[(),"",(),(),.string ⟨#[]⟩,.string ⟨#[]⟩,()]) (N 9) wr:=a 9 rfl rfl;clear a;simp only[bJ,zF0,zGb,zF1,zFp,zFd,zFh,zF4,Act.put,zFf,zFw,zFx];generalize N 9=a0 at P⊢;have I:=K.lt;clear K;go_wp2
  obtain⟨u0,u1,u2,u3,u4,u5,u6⟩:=zc7 P;refine zFg (v:=.tuple #[.agg #[(),"",(),(),.string ⟨#[]⟩,.string ⟨#[]⟩,()],(),.int .i64 (f.pos:Nat),.int .i64 (f.err:Nat)]) (by simp[results,results59,go_sem,u0,u1,u2,u3,u4,u5,u6]) rfl ?_;subst a;rw[O];exact⟨[.int .i64 0,.slice none 0 0,.int .i64 0,.int .i64 0,.string ⟨#[]⟩,.string ⟨#[]⟩,.int .i64 0],by simp,rfl,readB t m I⟩
 case pos=>
  have a:=Q.out;rw[zF2 (by simp[Z])]at a;have jA:((f.err:Int)==0)=true:=by rw[zFt];omega
  have r0:s.cell? ⟨w2.heap.size,0,none⟩=some E:=p.cell 0;have r1:s.cell? ⟨w2.heap.size,1,none⟩=some A:=p.cell 1;have r2:s.cell? ⟨w2.heap.size,2,none⟩=some D:=p.cell 2;have r3:s.cell? ⟨w2.heap.size,3,none⟩=some B:=p.cell 3;have r4:s.cell? ⟨w2.heap.size,4,none⟩=some F:=p.cell 4;have P:s.cell? ⟨w2.heap.size,5,none⟩=some u:=p.cell 5;have r6:s.cell? ⟨w2.heap.size,6,none⟩=some y:=p.cell 6;clear Q p;generalize w2.heap.size=gx at *;go_upto_region 7 with fail
  refine wr 5 (some n) [.is (.agg #[E, A, D, B, F, u, y]),
    .is (.pointer (some ⟨b,0,none⟩)),
    .is (.pointer (some ⟨b,0,none⟩)),
    .is (.pointer (some ⟨b,1,none⟩)),
    .is (.int .i64 (f.i:Nat)),
    .st (λv W=>Bk W n 110 #[E,A,D,B,F,u,y]) (λv w w2 hb h=>h.old hb)] [0,5] (by kernel_rfl) (by kernel_rfl) (by kernel_rfl)
    (λC=>.c (ay.z (rG _) [] [9] (by kernel_rfl) λU J wr d j o H=>?_) <|
    .c (ay.x (rG _) C rfl (λ_ _=>rfl)) <|
    .c (ay.x (rG _) C rfl (λ_ _=>rfl)) <|
    .c (ay.x (rG _) C rfl (λ_ _=>rfl)) <|
    .c (ay.x (rG _) C rfl (λwr m=>by
    have c1:wr.cell? ⟨b,1,none⟩=some (.int .i64 (f.i:Nat)):=(e.bk.grown m (aG (by omega))).cell 1
    exact bH (lD (by assumption)))) <|
    .c (ay.g [0] [4] (by kernel_rfl) λU J wr d j o H=>?_) <| .nil) ?_
  ·have e9:J.tmps[9]? =some (.pointer (some ⟨gx,0,none⟩)):=j.1.trans rfl;clear j o;have a5:=zE d r0;have a4:=zE d r1;have a0:=zE d r2;have h:=zE d r3;have U:=zE d r4;have Xd:=zE d P;have a7:=zE d r6;go_simp;exact H _ _ zR rfl
  ·have e4:J.tmps[4]? =some (.pointer (some ⟨n,0,none⟩)):=j.1.trans rfl;have J:=aA o.1 rfl rfl;clear j o;exact Bl cZ _ _ rfl (sQ (by assumption)) [E,A,D,B,F,u,y] (sQ (by assumption)) (K.old d) rfl rfl Y (λw9 G=>H _ _ ((below_grown d _).trans G.grown) (zK5 G.size.symm) G.bk)
  intro N wr m a;have P:(λv W=>Bk W n 110 #[E,A,D,B,F,u,y]) (N 5) wr:=a 5 rfl rfl;clear a;simp only[bJ,zF0,zGb,zF1,zFp,zFd,zFh,zF4,Act.put,zFf,zFw,zFx];generalize N 5=h at P⊢;have I:=K.lt;clear K;go_wp2
  obtain⟨u0,u1,u2,u3,u4,u5,u6⟩:=zc7 P;refine zFg (v:=.tuple #[.agg #[E,A,D,B,F,u,y],.int .i64 (f.i:Nat),(),()]) (by simp[results,results59,go_sem,u0,u1,u2,u3,u4,u5,u6]) rfl ?_;subst a;rw[O];exact⟨[E,A,D,B,F,u,y],rfl,R.keep λg j d=>⟨by omega,m.block g d (aG (by omega))⟩,readB t m I⟩
structure zEe (w:World) (A:Option Addr) (j m:Nat):Prop where
 ex:∃(g:Nat) (d0 d1 d2 d3 d4 d5 d6:Value),A=some ⟨g,0,none⟩/\g<w.heap.size/\(∀(q:Nat) (u:Value),[d0,d1,d2,d3,d4,d5,d6][q]? =some u->w.cell? ⟨g,j*7+q,none⟩=some u)/\
  ∀W:World,Below w w W->Calls prog 63 #[.agg #[d0,d1,d2,d3,d4,d5,d6]] W λr W'=>r=.returned (.int .i64 (m:Nat))/\Below W W W'
theorem vW (t x v y o z:Value) (A:Option Addr) (n l:Nat) (ns:List Nat) (hn:ns.length=n) (a1:n<=2) (hs:1+ns.sum<=1000000) (w:World) (c:∀j (a:j<ns.length),zEe w A j ns[j]):
  Calls prog 63 #[.agg #[t,.slice A n l,x,v,y,o,z]] w λr w'=>r=.returned (.int .i64 ((1+ns.sum:Nat)))/\Below w w w':=by
 have Z:=zH c;clear c
 go_enter func63,ntmps63
 have b:=Bk.new w 110 #[t,.slice A n l,x,v,y,o,z];have a:Below w w (w.alloc (.cells #[t,.slice A n l,x,v,y,o,z] 110)):=zR.alloc zL _;have B:(w.alloc (.cells #[t,.slice A n l,x,v,y,o,z] 110)).cell? ⟨w.heap.size,1,none⟩=some (.slice A n l):=b.cell 1;go_wp2
 generalize w.alloc (.cells #[t,.slice A n l,x,v,y,o,z] 110)=N at *;have D:=b.lt;have Q:=zH B;have d:=zH a;clear b B a
 go_loopw[3,8] (λm i wr=>∃k:Nat,k<=n/\m=.int .i64 ((1+(ns.take k).sum:Nat))/\i=.int .i64 k/\Hid (Below N N wr)) (λ_ i _=>n-(intOf i).toNat)
 case atStart=>exact⟨0,zFj _,by simp,rfl,zH zR⟩
 case round=>
  obtain⟨k,hk,rfl,rfl,f⟩:=hrel;obtain⟨b,rfl⟩:∃b:World,b=wr:=⟨_,rfl⟩
  by_cases a0:k<n
  ·as_aux_lemma=>
   have s:k<ns.length:=by omega
   obtain⟨g,H,G,F,J,E,I,M,rfl,hg,K,L⟩:=(Z.out k s).ex;have e:(ns.take (k+1)).sum=(ns.take k).sum+ns[k]:=by rw[zGc s,List.sum_append];simp
   have C:(ns.take (k+1)).sum<=ns.sum:=by
    have h:=zGv List.sum (zJd (k+1) ns);rw[List.sum_append]at h;omega
   have p:=d.trans (f.mono d.size);have B:=(bK f.out w.heap.size 1 D).trans Q.out;have a:∀(q:Nat) (u:Value),[H,G,F,J,E,I,M][q]? =some u->b.cell? ⟨g,k*7+q,none⟩=some u:=λq u h=>(bK p g _ hg).trans (K q u h)
   have W:b.cell? ⟨g,k*7,none⟩=some H:=a 0 _ rfl;have P:b.cell? ⟨g,k*7+1,none⟩=some G:=a 1 _ rfl;have r2:b.cell? ⟨g,k*7+2,none⟩=some F:=a 2 _ rfl;have S:b.cell? ⟨g,k*7+3,none⟩=some J:=a 3 _ rfl;have U:b.cell? ⟨g,k*7+4,none⟩=some E:=a 4 _ rfl;have O:b.cell? ⟨g,k*7+5,none⟩=some I:=a 5 _ rfl;have Y:b.cell? ⟨g,k*7+6,none⟩=some M:=a 6 _ rfl;have h:=zH (L b p);have X:=zH e;have R:1+(ns.take k).sum+ns[k]<=1000000:=by omega
   generalize ns[k]=m at *;generalize(ns.take k).sum=sk at *;clear K L a e C p;go_wp2_with fail
   refine h.mono ?_;rintro r w2 ⟨rfl,a⟩;have e:=zH (zKg f.out (a.mono (zKa f.out)));clear h a W P r2 S U O Y B;go_wp2
   go_roundw
   case rel=>exact⟨k+1,by omega,by rw[X.out];go_num,by go_num,e⟩
   case measure=>simp[intOf];omega
  as_aux_lemma=>
  obtain rfl:k=n:=by omega
  have a:ns.take k=ns:=zHv (by omega);rw[a];have p:=zH (d.trans (f.mono d.size));clear f d;go_wp2
  go_ret
  exact⟨rfl,p.out⟩
theorem uy {P:Nat->Prop}:∀(e:az) (cs:List Value) (w:World),mM P w e cs->aF e<=1000000->
  Calls prog 63 #[.agg cs.toArray] w λr w'=>r=.returned (.int .i64 (aF e:Nat))/\Below w w w'
 |.leaf op n D C a p,cs,w,h,b=>by
  obtain rfl:cs=iF op n D C a p:=h;exact vW (.int .i64 op) _ _ _ _ _ none 0 0 [] rfl (by omega) (by simp) w (λj e=>absurd e (by simp))
 |.un op x p,cs,w,h,b=>by
  obtain⟨g,xs,rfl,E,c,i⟩:=h;obtain⟨o,t,v,s,l,k,r,rfl,m⟩:=i.seven;have b:1+aF x<=1000000:=b;refine vW (.int .i64 op) _ _ _ _ _ (some ⟨g,0,none⟩) 1 1 [aF x] rfl (by omega) (by simpa using b) w (λj e=>?_)
  match j,e with
  |0,_=>exact⟨g,o,t,v,s,l,k,r,rfl,c.lt,λq u d=>by rw[c.cell];simpa using d,λW f=>uy x _ W (i.old f) (by omega)⟩
 |.bin op x y p,cs,w,h,b=>by
  obtain⟨g,xs,J,rfl,E,c,i,m⟩:=h;obtain⟨F,H,A,I,B,z,G,rfl,_⟩:=i.seven;obtain⟨o,t,v,s,l,k,r,rfl,_⟩:=m.seven;have b:1+aF x+aF y<=1000000:=b
  have:=vW (.int .i64 op) (.int .i64 0) (.int .i64 0) (.string ⟨#[]⟩) (.string ⟨#[]⟩) (.int .i64 p) (some ⟨g,0,none⟩) 2 2 [aF x,aF y] rfl (by omega) (by simp;omega) w (λj e=>by
   match j,e with
   | 0, _ => exact ⟨g, F, H, A, I, B, z, G, rfl, c.lt, λq u d => by
     rw[c.cell];have K:q<7:=(zFc.1 d).1;rw[zF7]
     rw[zGh (by simp;omega),zHm,zFr,d],λW f=>uy x _ W (i.old f) (by omega)⟩
   | 1, _ => exact ⟨g, o, t, v, s, l, k, r, rfl, c.lt, λq u d => by
     rw[c.cell];rw[zF7];rw[zGd (by simp)]
     simpa using d,λW f=>uy y _ W (m.old f) (by omega)⟩)
  rw[show 1+[aF x,aF y].sum=aF (.bin op x y p) by simp[aF];omega]at this;exact this
section
variable (b:Nat) (t:TypeId) (rest:List Value) (L:List aC) (LA:Option Addr) (Lc:Nat) (s:PS) (w:World)
theorem EX (e:Nat) (h:dH b t rest L LA Lc s w) (j:s.i<L.length) (f:L.length<=4001):
  Calls prog 61 #[.pointer (some ⟨b,0,none⟩),e] w λr w'=>r=.returned (.tuple #[])/\Steps b t rest L LA Lc (bf L e s) w w':=by
 have d:=zH (mr b t rest L LA Lc s w e h j f);have k:=h.c3
 by_cases a:s.err=0
 case neg=>
  have g:((s.err:Int)==0)=false:=zB (by omega)
  have c:bf L e s=s:=by unfold bf;rw[zF2 a]
  rw[c];clear a d c
  go_enter func61,ntmps61
  go_wp2
  first|go_end0|refine zHg (v:=.tuple #[]) (by simp[results,results61,go_sem]) rfl ?_
  exact⟨rfl,h,zF8 _ _⟩
 case pos=>
  have g:((s.err:Int)==0)=true:=by rw[a];rfl
  clear a h
  go_enter func61,ntmps61
  go_wp2_with fail
  refine d.mono ?_;rintro r w2 ⟨rfl,c⟩;go_wp2
  first|go_end0|refine zHg (v:=.tuple #[]) (by simp[results,results61,go_sem]) rfl ?_
  exact⟨rfl,c⟩
theorem EY (h:dH b t rest L LA Lc s w) (B:s.i<L.length) (J:L.length<=4001):
  Calls prog 62 #[.pointer (some ⟨b,0,none⟩)] w λr w'=>r=.returned (.string (bytes (dK L s).1))/\Steps b t rest L LA Lc (dK L s).2 w w':=by
 have z:Hid (∀W:World,dH b t rest L LA Lc s W->Calls prog 61 #[.pointer (some ⟨b,0,none⟩),.int .i64 13] W λr w'=>r=.returned (.tuple #[])/\Steps b t rest L LA Lc (bf L 13 s) W w'):=zH λW h=>EX b t rest L LA Lc s W 13 h B J
 obtain⟨f,k,l,A,m⟩:=h.rd.elem (n:=5) xA (by omega) B;have D:w.cell? ⟨f,k+s.i*5,none⟩=some (.int .i64 L[s.i].kind):=m 0 _ rfl;have g:w.cell? ⟨f,k+s.i*5+1,none⟩=some (.string (bytes L[s.i].text)):=m 1 _ rfl;have x:=h.c0;have u:=h.c1;have I:=h.c3;have j:=h.fr 1;rw[l]at x;have K:=h.bk.lt;unfold dK;rw[uo B];have q:=zH h
 by_cases y:s.err=0
 case neg=>
  as_aux_lemma=>
  have H:((s.err:Int) !=0)=true:=by rw[zG1];omega
  rw[zF3 (.inl y)];clear m h l D g x u j
  go_enter func62,ntmps62
  go_upto_region 1 with fail
  go_quiet (fail)
  have a:=zHf (zGp w.heap.size w) nq;have e:=zH (q.old a);have d:=zH (below_grown a (some b));clear a;go_wp2_with fail
  refine(z.out _ e.out).mono ?_;rintro r w2 ⟨rfl,c⟩;go_wp2
  go_ret
  exact⟨rfl,c.st,d.trans c.grown⟩
 case pos=>
 have H:((s.err:Int) !=0)=false:=by rw[y];rfl
 by_cases C:L[s.i].kind=2
 case neg=>
  as_aux_lemma=>
  have G:((L[s.i].kind:Int) !=2)=true:=by rw[zG1];omega
  rw[zF3 (.inr C)];generalize L[s.i]=T at *;generalize o:s.i=i at *;clear m h l j y
  go_enter func62,ntmps62
  go_upto_region 1 with fail
  go_quiet (fail)
  have a:=zHf (zGp w.heap.size w) nq;have e:=zH (q.old a);have d:=zH (below_grown a (some b));clear a;go_wp2_with fail
  refine(z.out _ e.out).mono ?_;rintro r w2 ⟨rfl,c⟩;go_wp2
  go_ret
  exact⟨rfl,c.st,d.trans c.grown⟩
 case pos=>
  as_aux_lemma=>
  have G:((L[s.i].kind:Int) !=2)=false:=by rw[C];rfl
  rw[zF2 (by omega)];have v:=zH l;have o:=zH g;clear m h l z
  go_enter func62,ntmps62
  go_upto_region 1 with fail
  go_quiet (fail)
  have a:=zHf (zGp w.heap.size w) nq;have c:=q.old a;have g:=(bK a f (k+s.i*5+1) (by omega)).trans o.out;have d:=zH (below_grown a (some b));clear a x u I D j;generalize w.drewN nq=e at *;have u:=c.c1;have j:=c.fr 1;have r:=step_next b t rest L LA Lc s e c
  have F:(e.setCell ⟨b,1,none⟩ (.int .i64 ((s.i:Int)+1))).cell? ⟨b,1,none⟩=some (.int .i64 ((s.i:Int)+1)):=by
   have:=r.st.c1;unfold aO at this
   simpa using this
  have M:(e.setCell ⟨b,1,none⟩ (.int .i64 ((s.i:Int)+1))).cell? ⟨b,0,none⟩=some (.slice (some ⟨f,k,none⟩) L.length Lc):=by
   have:=r.st.c0
   rwa [v.out]at this
  have N:(e.setCell ⟨b,1,none⟩ (.int .i64 ((s.i:Int)+1))).cell? ⟨f,k+s.i*5+1,none⟩=some (.string (bytes L[s.i].text)):=by
   have:=((zGp b e).setCell (p:=⟨b,1,none⟩) (zFv b) (.int .i64 ((s.i:Int)+1)))
   exact(bK this f _ A).trans g
  have E:=zH r;clear r g q o c;go_upto_region 5 with fail
  clear u j;generalize e.setCell ⟨b,1,none⟩ (.int .i64 ((s.i:Int)+1))=wr at *
  go_quiet (fail)
  go_wp2
  go_ret
  exact⟨rfl,E.st.old (zHf zR nq),(d.trans E.grown).trans (below_grown (zHf zR nq) (some b))⟩
end
def vX:az->Prop
 |.leaf op ..=>op≠13
 |.un op x _=>op≠13/\vX x
 |.bin _ x y _=>vX x/\vX y
def jZ (P:Nat->Prop) (w:World):List az->List (List Value)->Prop
 |[],[]=>True
 |e::es,cs::css=>mM P w e cs/\jZ P w es css
 |_,_=>False
theorem jZ.app {P:Nat->Prop} {w:World}:∀{c d:List az} {a b:List (List Value)},jZ P w c a->jZ P w d b->jZ P w (c++d) (a++b)
 |[],_,[],_,_,h=>h
 |e::c,_,cs::a,_,h,b=>⟨h.1,jZ.app h.2 b⟩
 |[],_,_::_,_,h,_=>h.elim
 |_::_,_,[],_,h,_=>h.elim
theorem jZ.keep {P P':Nat->Prop} {w w':World} (b:∀g,P g->g<w.heap.size->P' g/\w'.heap[g]? =w.heap[g]?):∀{c:List az} {a:List (List Value)},jZ P w c a->jZ P' w' c a
 |[],[],_=>trivial
 |_::_,_::_,h=>⟨h.1.keep b,jZ.keep b h.2⟩
 |[],_::_,h=>h.elim
 |_::_,[],h=>h.elim
theorem jZ.len {P:Nat->Prop} {w:World}:∀{c:List az} {a:List (List Value)},jZ P w c a->c.length=a.length/\a.flatten.length=a.length*7/\∀u∈a.flatten,u.oneCell'=true
 |[],[],_=>⟨rfl,rfl,by simp⟩
 |e::c,cs::a,h=>by
  obtain⟨f,i,g⟩:=h.2.len;obtain⟨o,j,m,l,p,k,n,rfl,d⟩:=h.1.seven;refine⟨by simp[f],by rw[List.flatten_cons,zFu,i,zFh];simp;omega,λu b=>?_⟩;rw[List.flatten_cons,zFy]at b;rcases b with b|b
  ·exact zGu.1 d u b
  exact g u b
 |[],_::_,h=>h.elim
 |_::_,[],h=>h.elim
theorem qH:∀e:az,(jB e).length<=aF e
 |.leaf ..=>zFv _
 |.un _ x _=>by show 1<=1+aF x;omega
 |.bin op x y p=>by
  have b:=qH x;have a:=qH y;unfold jB aF
  split
  ·rw[zFu];omega
  simp;omega
def Pe (P:Nat->Prop) (e:az) (w:World) (r:Ending) (w':World):Prop:=
 ∃(v:Value) (css:List (List Value)),r=.returned v/\w'.ownsRow w.heap.size 110 7 v css.length css.flatten/\jZ P w (jB e) css/\Below w w w'
theorem XY (w:World) (a:Array Value) (n:Nat) {base b:Nat} {e:TypeId} (hb:base<=w.heap.size) (d:n<=maxLen) (c:a.size=n*b):
  (w.alloc (.cells a e)).ownsRow base e b (.slice (some ⟨w.heap.size,0,none⟩) n n) n a.toList:=
 ⟨by simpa using c,.inr ⟨w.heap.size,n,a,rfl,hb,heap_alloc_new w _,zFv _,d,c,by rw[zHv (by simp[c])]⟩⟩
theorem Cf (op:Nat) (i:op≠13) (b d c e a f:Value) (w:World):
  Calls prog 60 #[.agg #[op,b,d,c,e,a,f]] w λr w'=>∃v,r=.returned v/\w'.ownsRow w.heap.size 110 7 v 1 [.int .i64 op,b,d,c,e,a,f]/\Below w w w':=by
 have n:((op:Int) !=13)=true:=by rw[zG1];omega
 go_enter func60,ntmps60
 have g:=Bk.new w 110 #[op,b,d,c,e,a,f];have h:Below w w (w.alloc (.cells #[op,b,d,c,e,a,f] 110)):=zR.alloc zL _;have o:(w.alloc (.cells #[op,b,d,c,e,a,f] 110)).cell? ⟨w.heap.size,0,none⟩=some (.int .i64 op):=g.cell 0;have q:(w.alloc (.cells #[op,b,d,c,e,a,f] 110)).cell? ⟨w.heap.size,1,none⟩=some b:=g.cell 1;have l:(w.alloc (.cells #[op,b,d,c,e,a,f] 110)).cell? ⟨w.heap.size,2,none⟩=some d:=g.cell 2;have r:(w.alloc (.cells #[op,b,d,c,e,a,f] 110)).cell? ⟨w.heap.size,3,none⟩=some c:=g.cell 3;have m:(w.alloc (.cells #[op,b,d,c,e,a,f] 110)).cell? ⟨w.heap.size,4,none⟩=some e:=g.cell 4;have k:(w.alloc (.cells #[op,b,d,c,e,a,f] 110)).cell? ⟨w.heap.size,5,none⟩=some a:=g.cell 5;have p:(w.alloc (.cells #[op,b,d,c,e,a,f] 110)).cell? ⟨w.heap.size,6,none⟩=some f:=g.cell 6;go_upto_region 1 with fail
 generalize w.alloc (.cells #[op,b,d,c,e,a,f] 110)=j at *;go_wp2_with (first|(refine kV rfl _ rfl rfl ?_))
 go_ret
 exact⟨_,rfl,XY j #[op,b,d,c,e,a,f] 1 h.size (by unfold maxLen;omega) rfl,h.alloc h.size _⟩
end Go.Proofs.YtbjnhllkdilpfaaGreat
