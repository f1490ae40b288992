/- Part 20 of the proof. No conditions. -/
import Derived.Test.YtbjnhllkdilpfaaGreatZf16
import Derived.Test.YtbjnhllkdilpfaaGreatZf19
set_option linter.unusedVariables false
set_option linter.unusedSimpArgs false
set_option maxRecDepth 100000
set_option maxHeartbeats 16000000
namespace Go.Proofs.YtbjnhllkdilpfaaGreat
open Go.RowKit _root_.Go.Proofs.Tryz
def zS (B:Nat) (w:World) (v:Value) (es:List az):Prop:=∃css:List (List Value),w.ownsRow B 110 7 v css.length css.flatten/\jZ (λg=>B<=g) w es css
theorem dH.set6 {b:Nat} {t:TypeId} {u u2:Value} {a:List Value} {L:List aC} {d:Option Addr} {c:Nat} {s:PS} {w:World} (h:dH b t (u::u2::a) L d c s w) (v:Value):dH b t (u::v::a) L d c s (w.setCell ⟨b,6,none⟩ v):=
 ⟨by simpa[dF]using h.bk.put 6 v,o6 h.rd _ _⟩
theorem dH.c6 {b:Nat} {t:TypeId} {u u2:Value} {a:List Value} {L:List aC} {d:Option Addr} {c:Nat} {s:PS} {w:World} (h:dH b t (u::u2::a) L d c s w):w.cell? ⟨b,6,none⟩=some u2:=by rw[h.bk.cell 6];simp[dF]
theorem mM.zA4 {P:Nat->Prop} {w:World}:∀{e:az} {cs:List Value},mM P w e cs->∃(f d h b:Int) (A:Option Addr) (k c:Nat) (e S2:ByteArray),cs=[.int .i64 f,.slice A k c,.int .i64 d,.int .i64 h,.string e,.string S2,.int .i64 b]
 |.leaf op n b d a p,cs,h=>by
  obtain rfl:cs=iF op n b d a p:=h;exact⟨_,_,_,_,_,_,_,_,_,rfl⟩
 |.un op x p,cs,h=>by
  obtain⟨g,xs,rfl,_⟩:=h;exact⟨_,_,_,_,_,_,_,_,_,rfl⟩
 |.bin op x y p,cs,h=>by
  obtain⟨g,xs,e,rfl,_⟩:=h;exact⟨_,_,_,_,_,_,_,_,_,rfl⟩
def Um (b B:Nat) (L:List aC) (LA:Option Addr) (Lc:Nat) (v0:Value) (rr:List Value) (s:PS) (w:World) (e:Ending) (w':World):Prop:=
 e=.returned (.tuple #[])/\w.grownBy w' (some b)/\∃v,dH b 90 (v0::v::rr) L LA Lc (ig L s).2 w'/\zS B w' v (ig L s).1
structure WhI (b B g2:Nat) (rest:List Value) (L:List aC) (LA:Option Addr) (Lc:Nat) (w:World) (x:PS) (e:az) (cs:List Value) (W:World):Prop where
 st:dH b 90 rest L LA Lc x W
 gw:w.grownBy W (some b)
 k2:Bk W g2 110 cs.toArray
 ok:mM (λg=>B<=g) W e cs
structure WhJ (b g2:Nat) (rest:List Value) (L:List aC) (LA:Option Addr) (Lc:Nat) (w:World) (x:PS) (e:az) (cs:List Value) (ds:Array Value) (W:World):Prop where
 st:dH b 90 rest L LA Lc x W
 gw:w.grownBy W (some b)
 k2:Bk W g2 110 ds
 ok:mM (λg=>g2+1<=g) W e cs
theorem WhJ.put {b c:Nat} {a:List Value} {L:List aC} {f:Option Addr} {d:Nat} {w:World} {x:PS} {e:az} {cs:List Value} {g:Array Value} {W:World} (h:WhJ b c a L f d w x e cs g W) (hb:b<c) (i:w.heap.size<=c) (o:Nat) (v:Value):WhJ b c a L f d w x e cs (g.setIfInBounds o v) (W.setCell ⟨c,o,none⟩ v):=
 ⟨h.st.far hb v,xE h.gw i,h.k2.put o v,h.ok.set (by omega)⟩
section
variable (b B:Nat) (L:List aC) (LA:Option Addr) (Lc:Nat) (s:PS) (w:World) (v0:Value) (rr:List Value)
theorem QN (h:dH b 90 (v0::.slice none 0 0::rr) L LA Lc s w) (he:dS L) (hi:iy L s) (hL:L.length<=4001) (Y:b<B) (a9:B<=w.heap.size):
  Calls prog 38 #[.pointer (some ⟨b,0,none⟩)] w (Um b B L LA Lc v0 rr s w):=by
 have t:Hid (∀(x:PS) (W:World) (S:ByteArray) (v:Str) (k:List Value),S.toList=v->iy L x->dH b 90 k L LA Lc x W->Calls prog 37 #[.pointer (some ⟨b,0,none⟩),S] W λr w'=>r=.returned (.bool (fD L x v))/\Below W W w'):=zH λx W S v k hv ho h=>by
  have:=mP b _ k L LA Lc x W S h ho.lt hL
  rwa [hv]at this
 have a0:(⟨#[87,72,69,82,69]⟩:ByteArray).toList=vS:=by rw[zFm];rfl
 unfold Um;obtain⟨a4,a⟩:=zN (ig L s)
 rw[a];unfold ig at a;have N:=zH a;have d:=zH h;have a5:=h.bk.lt;have j:=h.c3;clear a h
 go_enter func38,ntmps38
 obtain⟨F,a⟩:=zN (!decide (s.err=0)|| !fD L s vS)
 have K:=zH a;clear a;go_upto_region 0 with fail
 go_cut[18] (λv wx=>v=.bool F/\Hid (dH b 90 (v0::.slice none 0 0::rr) L LA Lc s wx/\Below w w wx))
 case first=>
  as_aux_lemma=>
  by_cases O:s.err=0
  case neg=>
   have jA:((s.err:Int) !=0)=true:=by rw[zG1];omega
   have c:F=true:=by rw[<-K.out];simp[O]
   subst c;clear O;go_wp2_with fail
   go_meet
   exact⟨rfl,zH ⟨d.out,zGp _ _⟩⟩
  case pos=>
   have jA:((s.err:Int) !=0)=false:=by rw[zG0];omega
   obtain⟨f,a⟩:=zN (fD L s vS)
   have c:F= !f:=by rw[<-K.out,a];simp[O]
   have e:=zH a;subst c;clear O a;go_wp2_with fail
   refine(t.out s _ _ _ _ a0 hi d.out).mono ?_;rintro r w2 ⟨rfl,a⟩;rw[e.out];have E:=zH (zA (d.old a) a);clear a;go_wp2_with fail
   go_meet
   exact⟨rfl,E⟩
 case rest=>
 obtain⟨rfl,E⟩:=hcut;clear d j;cases F
 case true=>
  as_aux_lemma=>
  have d:=N.out;rw[zF3 (by have:=K.out;simpa using this)]at d;subst d;clear N K;go_wp2_with fail
  (try simp only[Exit.inBlock,Exit.then]);refine zFg (v:=.tuple #[]) (by simp[results,results38,go_sem]) rfl ?_
  exact⟨rfl,below_grown E.2 _,_,E.1,[],zGs _ _ _ _,trivial⟩
 case false=>
  as_aux_lemma=>
  have c:=K.out;have d:=N.out;rw[zF2 (by simpa using c)]at d
  have n:fD L s vS=true:=by
   have:s.err=0/\fD L s vS=true:=by simpa using c
   exact this.2
  have O:s.err=0:=by
   have:s.err=0/\fD L s vS=true:=by simpa using c
   exact this.1
  have u:=bF.next he hi (bM n);have G:=u.ok;have a:=Jj he (s.i+1) G.lt
  have f:Hid (dH b 90 (v0::.slice none 0 0::rr) L LA Lc (aO s) (wc.setCell ⟨b,1,none⟩ (.int .i64 ((s.i:Int)+1)))/\w.grownBy (wc.setCell ⟨b,1,none⟩ (.int .i64 ((s.i:Int)+1))) (some b)):=zH (by
   have e:=step_next b _ _ L LA Lc s wc E.1
   exact⟨e.st,(below_grown E.2 _).trans e.grown⟩)
  obtain⟨W1,e⟩:=zN (wc.setCell ⟨b,1,none⟩ (.int .i64 ((s.i:Int)+1)))
  have j:=zH e;rw[e]at f
  have U:Hid (∀W:World,Below W1 W1 W->Calls prog 59 #[.slice LA L.length Lc,.int .i64 ((s.i:Int)+1)] W (O9 L (s.i+1) W)):=zH λW hb=>by
   have l:=f.1.bk.lt;have m:=f.1.rd.below (hb.mono (zG5 l));exact Ud L LA Lc (s.i+1) W (m.more (by have y:=hb.size;omega)) he G.lt hL
  unfold O9 at U;generalize mV L (s.i+1)=l at *;obtain⟨x,H,ap,J⟩:=l;simp only at d a U;have R:=zH d;have X0:=zH a;have a8:s.i<=4001:=by have:=hi.lt;omega
  have l:=E.1.c1;have f1:=E.1.fr 1;clear K N c d n a u e O;go_upto_region 2 with fail
  rw[j.out];clear l f1 j E;have c:=f.1;have c0:=c.c0;have c1:W1.cell? ⟨b,1,none⟩=some (.int .i64 ((s.i:Int)+1)):=c.c1;have a:=c.bk.lt;have HK:Hid (∀w',Below W1 W1 w'->Below W1 W1 w'/\w'.cell? ⟨b,0,none⟩=some (.slice LA L.length Lc)/\w'.cell? ⟨b,1,none⟩=some (.int .i64 ((s.i:Int)+1))):=zH λw' hb=>⟨hb,(bK hb b 0 a).trans c0,(bK hb b 1 a).trans c1⟩
  have a1:B<=W1.heap.size:=by have:=f.2.size;omega
  clear c
  go_cut[2,3,4,5] (λl e j c wx=>∃(I:Nat) (cs:List Value),l=.pointer (some ⟨I,0,none⟩)/\e=.int .i64 H/\j=.int .i64 ap/\c=.int .i64 J/\Hid (B<=I/\WhI b B I (v0::.slice none 0 0::rr) L LA Lc w (aO s) x cs wx))
  case first=>
   go_region_held3(λw'=>Below W1 W1 w'/\w'.cell? ⟨b,0,none⟩=some (.slice LA L.length Lc)/\w'.cell? ⟨b,1,none⟩=some (.int .i64 ((s.i:Int)+1)))
    (exact HK.out _ (by repeat(first|with_reducible refine Below.setCell ?_ (by simp;try omega) _|with_reducible assumption|with_reducible exact zGp _ _|with_reducible refine zKf ?_|with_reducible refine Below.alloc ?_ (by first|exact zFv _|exact zKa (by assumption)) _)))
    (first|(go_at_call 59;refine(U.out _ (by first|assumption|exact zR.drew|exact(zR.alloc zL _).drew)).mono ?_;rintro e A ⟨cs,rfl,j,u⟩;have c:Below W1 W1 A:=(by apply Tu (hb:=u);assumption);obtain⟨z,m,n,D,M,X,Q,y,C,rfl⟩:=j.zA4;(first|(have l:=Bk.old (show Bk ((W1.alloc (.cells #[(),"",(),(),.string ⟨#[]⟩,.string ⟨#[]⟩,()] 110)).drew) W1.heap.size 110 _ from(Bk.new _ _ _).drew) u;obtain⟨z0,z1,z2,z3,z4,z5,z6⟩:=zc7 l;have ad:=l.frozen 0;have a3:=l.frozen 1;have a2:=l.frozen 2;have a6:=l.frozen 3;have aa:=l.frozen 4;have a7:=l.frozen 5;have ab:=l.frozen 6)|skip)))
   ·as_aux_lemma=>
    have Z:Below A A (A.alloc (.cells #[z,.slice M X Q,m,n,y,C,D] 110)):=zR.alloc zL _
    have HJ:Hid (B<=A.heap.size/\WhI b B A.heap.size (v0::.slice none 0 0::rr) L LA Lc w (aO s) x [.int .i64 z,.slice M X Q,.int .i64 m,.int .i64 n,.string y,.string C,.int .i64 D] (A.alloc (.cells #[z,.slice M X Q,m,n,y,C,D] 110))):=
     zH ⟨by have:=c.size;omega,(f.1.old c).old Z,(f.2.trans (below_grown c _)).trans (below_grown Z _),Bk.new A _ _,(j.old Z).more (by simp;omega)⟩
    clear j c u HK U t R Z;go_wp2_with fail
    go_meet
    exact⟨_,_,rfl,rfl,rfl,rfl,HJ⟩
   as_aux_lemma=>
   have J0:WhJ b W1.heap.size (v0::.slice none 0 0::rr) L LA Lc w (aO s) x [.int .i64 z,.slice M X Q,.int .i64 m,.int .i64 n,.string y,.string C,.int .i64 D] #[(),"",(),(),.string ⟨#[]⟩,.string ⟨#[]⟩,()] A:=
    ⟨f.1.old c,f.2.trans (below_grown c _),l,j.more (by simp)⟩
   have Z:=((((((J0.put a f.2.size 0 (.int .i64 z)).put a f.2.size 1 (.slice M X Q)).put a f.2.size 2 (.int .i64 m)).put a f.2.size 3 (.int .i64 n)).put a f.2.size 4 (.string y)).put a f.2.size 5 (.string C)).put a f.2.size 6 (.int .i64 D);have HJ:Hid (B<=W1.heap.size/\WhI b B W1.heap.size (v0::.slice none 0 0::rr) L LA Lc w (aO s) x [.int .i64 z,.slice M X Q,.int .i64 m,.int .i64 n,.string y,.string C,.int .i64 D] _):=zH ⟨a1,Z.st,Z.gw,by simpa using Z.k2,Z.ok.more (by omega)⟩;clear J0 Z l j c u HK U t R;go_wp2_with fail
   go_meet
   exact⟨_,_,rfl,rfl,rfl,rfl,HJ⟩
  case rest=>
  obtain⟨I,cs,rfl,rfl,rfl,rfl,e⟩:=hcut;clear c0 c1 HK U t;have a6:=e.1;have e:=zH e.2
  by_cases u:J=0
  case neg=>
   as_aux_lemma=>
   have jA:((J:Int) !=0)=true:=by rw[zG1];omega
   have d:=R.out;rw[zF3 u]at d;subst d;have Q:=e.st.c3;have X:=e.st.fr 3;have j:=e.st.set3 J;have U:=j.fr 4;have A:=j.c4;have l:=j.set4 ap;have M:=zH (zA l (cO (o:=4) (v:=.int .i64 ap) (cO (o:=3) (v:=.int .i64 J) e.gw)));clear u R j l e X0;go_wp2_with fail
   (try simp only[Exit.inBlock,Exit.then]);refine zFg (v:=.tuple #[]) (by simp[results,results38,go_sem]) rfl ?_
   exact⟨rfl,M.2,_,M.1,[],zGs _ _ _ _,trivial⟩
  case pos=>
   as_aux_lemma=>
   have jA:((J:Int) !=0)=false:=by rw[zG0];omega
   have d:=R.out;rw[zF2 (by omega)]at d;have N:=zH d;have U:=e.st.c1;have f1:=e.st.fr 1;have A:=e.st.set1 H;obtain⟨z,y1,m,n,y,C,D,rfl,j⟩:=e.ok.seven
   have l:WhI b B I (v0::.slice none 0 0::rr) L LA Lc w ⟨H,s.opn,s.err,s.pos⟩ x [z,y1,m,n,y,C,D] (wc.setCell ⟨b,1,none⟩ (.int .i64 H)):=
    ⟨A,cO e.gw,e.k2.far (p:=⟨b,1,none⟩) (by show I≠b;omega) _,e.ok.set Y⟩
   have Q:=zH l;clear A R d u l e;go_upto_region 6 with fail
   clear U f1;generalize wc.setCell ⟨b,1,none⟩ (.int .i64 H)=W3 at *;have V:=Q.out;obtain⟨q0,q1,q2,q3,q4,q5,q6⟩:=zc7 V.k2;have U:=zH (Ci (P:=λg=>B<=g/\g<W3.heap.size) x [z,y1,m,n,y,C,D] W3 (λq l=>l.2) (V.ok.keep λg l hg=>⟨⟨l,hg⟩,rfl⟩) X0.2.1 (by have:=X0.1;omega));clear V j;go_wp2_with fail
   refine U.mono ?_;rintro r A ⟨v,a2,rfl,j,l,c⟩;have Z:dH b 90 (v0::.slice none 0 0::rr) L LA Lc ⟨H,s.opn,s.err,s.pos⟩ A:=Q.st.old c;have d6:=Z.c6;have f6:=Z.fr 6;have s6:=Z.set6 v;have lX:A.grownBy (A.setCell ⟨b,6,none⟩ v) (some b):=cO (zF8 _ _);have X:=l.len;have a3:B<=W3.heap.size:=by have:=Q.gw.size;omega
   have M:Hid (dH b 90 (v0::v::rr) L LA Lc ⟨H,s.opn,s.err,s.pos⟩ (A.setCell ⟨b,6,none⟩ v)/\w.grownBy (A.setCell ⟨b,6,none⟩ v) (some b)/\zS B (A.setCell ⟨b,6,none⟩ v) v (jB x)):=zH
    ⟨s6,(Q.gw.trans (below_grown c _)).trans lX,a2,ik (bV j a3) lX Y,l.keep λg hP hg=>⟨hP.1,(lX.block g (by have:=c.size;omega) (aG (by have:=hP.1;omega))).trans (c.block g hP.2)⟩⟩
   obtain⟨vA,vc,hv,-⟩:=aK j;subst hv;clear j l c Z s6 lX X Q U q0 q1 q2 q3 q4 q5 q6 X0;go_wp2_with fail
   first|go_end0|refine zHg (v:=.tuple #[]) (by simp[results,results38,go_sem]) rfl ?_
   have d:=N.out;subst d;exact⟨rfl,M.2.1,_,M.1,M.2.2⟩
end
section
set_option maxRecDepth 100000
set_option maxHeartbeats 16000000
theorem WM {d:Nat} {S S':Nat->Prop} {ax:Int} {ks:List Int} {bs:List dL} {cs a0:List Value} {w:World} (h1:dO d S ax ks bs cs w) (h2:dO d S' ax ks bs a0 w):Calls prog 12 #[.agg cs.toArray,.agg a0.toArray] w (Yes w):=by
 obtain⟨_,_,rfl,⟨Ak,ck,rfl,a5,hk⟩,⟨Ab,cb,rfl,a3,hb⟩⟩:=h1;obtain⟨_,_,rfl,⟨W,Za,rfl,_,l⟩,⟨P,I,rfl,_,m⟩⟩:=h2
 go_enter func12,ntmps12
 go_upto_region 1 with fail
 obtain⟨D,g⟩:=zN ks.length
 obtain⟨n,p⟩:=zN bs.length
 rw[g,p];rw[g]at a5;rw[p]at a3;obtain⟨U,e⟩:=zN ((w.alloc (.cells #[ax,.slice Ak D ck,.slice Ab n cb] 29)).alloc (.cells #[ax,.slice W D Za,.slice P n I] 29))
 obtain⟨G,h⟩:=zN w.heap.size
 have r:Bk U G 29 #[ax,.slice Ak D ck,.slice Ab n cb]:=e▸h▸(Bk.new _ _ _).alloc _;have q:Bk U (G+1) 29 #[ax,.slice W D Za,.slice P n I]:=e▸Bk.newAt (by simp;omega) _ _;have a:Below w w U:=e▸bel2 w _ _;simp only[e,h];have HR:=zH (zA (zA (hk.old a) (l.old a)) (zA (hb.old a) (m.old a)));have HB:=zH a;have HN:=zH (zA g p);have HK:=zH (zA r q);obtain⟨x0,Z,x2⟩:=zc3 r;obtain⟨y0,y1,y2⟩:=zc3 q;clear e h r q a hk l hb m g p;go_wp2_with fail
 clear x0 Z x2 y0 y1 y2
 go_loopw[36] (λi wr=>∃(k:Nat),k<=D/\i=.int .i64 k/\Hid (Below U U wr)) (λi _=>D-(intOf i).toNat)
 case atStart=>exact⟨0,zFj _,rfl,zH zR⟩
 case round=>
  obtain⟨wq,rfl⟩:∃z:World,z=wr:=⟨_,rfl⟩
  obtain⟨k,hk,rfl,g⟩:=hrel;have Z:wq.cell? ⟨G,1,none⟩=some (.slice Ak D ck):=(HK.1.old g.out).cell 1;have y1:wq.cell? ⟨G+1,1,none⟩=some (.slice W D Za):=(HK.2.old g.out).cell 1
  by_cases E:k<D
  ·have v:k<ks.length:=by rw[HN.1];exact E
   obtain⟨b,o,cs,rfl,_,hb,rfl,A⟩:=(HR.1.1.old g.out).elem v;obtain⟨b2,F,a1,rfl,_,a4,rfl,B⟩:=(HR.1.2.old g.out).elem v;generalize ks[k]=J at *;have r0:wq.cell? ⟨b,o+k,none⟩=some (.int .i64 J):=by simpa using A 0 _ rfl
   have s0:wq.cell? ⟨b2,F+k,none⟩=some (.int .i64 J):=by simpa using B 0 _ rfl
   clear A B HR v;go_upto_region 6 with fail
   refine wx (λk => false) [.is (.pointer (some ⟨G, 1, none⟩)),
     .is (.slice (some ⟨b,o,none⟩) D ck),
     .is (.int .i64 (k:Nat)),
     .is (.pointer (some ⟨b,o+k,none⟩)),
     .is (.int .i64 J),
     .is (.pointer (some ⟨G+1,1,none⟩)),
     .is (.slice (some ⟨b2,F,none⟩) D Za),
     .is (.int .i64 (k:Nat)),
     .is (.pointer (some ⟨b2,F+k,none⟩)),
     .is (.int .i64 J),
     .is (.bool false)] [3,8,10] (by kernel_rfl) (by kernel_rfl) (by kernel_rfl)
     (λC=>.c (px C rfl (λ_ _=>rfl)) <|
     .c (px C rfl (λ_ h=>bH (Gq (bc h Z)))) <|
     .c (px C rfl (λ_ _=>rfl)) <|
     .c (pz [1,2] [] (by kernel_rfl) λr y wr p m a l=>?_) <|
     .c (px C rfl (λ_ h=>bH (lD (bc h r0)))) <|
     .c (px C rfl (λ_ _=>rfl)) <|
     .c (px C rfl (λ_ h=>bH (Gq (bc h y1)))) <|
     .c (px C rfl (λ_ _=>rfl)) <|
     .c (pz [6,7] [] (by kernel_rfl) λr y wr p m a l=>?_) <|
     .c (px C rfl (λ_ h=>bH (lD (bc h s0)))) <|
     .c (pz [4,9] [] (by kernel_rfl) λr y wr p m a l=>?_) <| .nil) ?_
   ·have e:=aA a.1 rfl rfl;have u:=aA a.2.1 rfl rfl;clear m a;go_simp;refine l _ _ zR ?_
    show(_:Value)=_
    first|rfl|(simp;done)|(simp;omega)
   ·have x:=aA a.1 rfl rfl;have s:=aA a.2.1 rfl rfl;clear m a;go_simp;refine l _ _ zR ?_
    show(_:Value)=_
    first|rfl|(simp;done)|(simp;omega)
   ·have t:=aA a.1 rfl rfl;have q:=aA a.2.1 rfl rfl;clear m a;go_simp;refine l _ _ zR ?_
    show(_:Value)=_
    first|rfl|(simp;done)|(simp;omega)
   intro qx wr p hR hS;clear hR hS;simp only[bJ,zF0,zGb,zF1,zFp,zFd,zFh,zF4,Act.put,zFf,zFw,zFx];refine zM ?_;go_wp2_with fail
   go_roundw
   case rel=>exact⟨k+1,E,by go_num,zH (g.trans (p.mono g.size))⟩
   case measure=>simp[intOf];omega
  obtain rfl:k=D:=by omega
  have x2:wq.cell? ⟨G,2,none⟩=some (.slice Ab n cb):=(HK.1.old g.out).cell 2;go_wp2_with fail
  clear Z y1 x2
  go_loopw[54] (λi wr=>∃(k:Nat),k<=n/\i=.int .i64 k/\Hid (Below U U wr)) (λi _=>n-(intOf i).toNat)
  case atStart=>exact⟨0,zFj _,rfl,g⟩
  case round=>
   clear g;obtain⟨H,rfl⟩:∃z:World,z=wr:=⟨_,rfl⟩
   obtain⟨k,hk,rfl,g⟩:=hrel;have x2:H.cell? ⟨G,2,none⟩=some (.slice Ab n cb):=(HK.1.old g.out).cell 2;have y2:H.cell? ⟨G+1,2,none⟩=some (.slice P n I):=(HK.2.old g.out).cell 2
   by_cases E:k<n
   ·have v:k<bs.length:=by rw[HN.2];exact E
    obtain⟨b,o,cs,rfl,_,hb,s,A⟩:=(HR.2.1.old g.out).elem v;obtain⟨b2,F,a1,rfl,_,a4,e,B⟩:=(HR.2.2.old g.out).elem v;generalize bs[k]=q at *;obtain⟨_,rfl,A7,L,rfl,a7,t⟩:=s;obtain⟨_,rfl,B7,N,rfl,_,u⟩:=e;obtain⟨Y,win,s⟩:=q;simp only[]at *;have HE:=zH (zA t u);obtain⟨q,e⟩:=zN s.length
    rw[e]at A B a7;have a6:=zH e;have p0:H.cell? ⟨b,o+k*3,none⟩=some (.int .i64 (Y:Nat)):=A 0 _ rfl;have p1:H.cell? ⟨b,o+k*3+1,none⟩=some (.int .i64 win):=A 1 _ rfl;have p2:H.cell? ⟨b,o+k*3+2,none⟩=some (.slice A7 q L):=A 2 _ rfl;have q0:H.cell? ⟨b2,F+k*3,none⟩=some (.int .i64 (Y:Nat)):=B 0 _ rfl;have q1:H.cell? ⟨b2,F+k*3+1,none⟩=some (.int .i64 win):=B 1 _ rfl;have q2:H.cell? ⟨b2,F+k*3+2,none⟩=some (.slice B7 q N):=B 2 _ rfl;clear A B t u e v;go_upto_region 12 with fail
    go_cut[7,8] (λt e wx=>∃K M,t=.pointer (some ⟨K,0,none⟩)/\e=.pointer (some ⟨M,0,none⟩)/\Hid (Below H H wx/\Bk wx K 67 #[.int .i64 (Y:Nat),win,.slice A7 q L]/\Bk wx M 67 #[.int .i64 (Y:Nat),win,.slice B7 q N]))
    case first=>
     go_region_held3(λw'=>w'.cell? ⟨G,2,none⟩=some (.slice (some ⟨b,o,none⟩) n cb)/\w'.cell? ⟨G+1,2,none⟩=some (.slice (some ⟨b2,F,none⟩) n I)/\w'.cell? ⟨b,o+k*3,none⟩=some (.int .i64 (Y:Nat))/\w'.cell? ⟨b,o+k*3+1,none⟩=some (.int .i64 win)/\w'.cell? ⟨b,o+k*3+2,none⟩=some (.slice A7 q L)/\w'.cell? ⟨b2,F+k*3,none⟩=some (.int .i64 (Y:Nat))/\w'.cell? ⟨b2,F+k*3+1,none⟩=some (.int .i64 win)/\w'.cell? ⟨b2,F+k*3+2,none⟩=some (.slice B7 q N)) (go_keep) (fail)
     all_goals
      go_wp2_with fail
      go_meet
      exact⟨_,_,rfl,rfl,zH ⟨((ba _ _).trans ((ba _ _).mono (by simp))).drew,by first|exact(Bk.new _ _ _).alloc _|exact Bk.newAt (by simp) _ _,by first|exact(Bk.new _ _ _).alloc _|exact Bk.newAt (by simp) _ _⟩⟩
    case rest=>
    obtain⟨K,M,rfl,rfl,HC⟩:=hcut;clear x2 y2 p0 p1 p2 q0 q1 q2;have R:=zH HC.out;obtain⟨x0,Z,x7⟩:=zc3 HC.2.1;obtain⟨y0,y1,X⟩:=zc3 HC.2.2;obtain⟨w2,rfl⟩:∃z:World,z=wc:=⟨_,rfl⟩
    go_wp2_with fail
    clear x0 Z y0 y1;clear x7 X
    go_loopw[91] (λi wr=>∃(j:Nat),j<=q/\i=.int .i64 j/\Hid (Below w2 w2 wr)) (λi _=>q-(intOf i).toNat)
    case atStart=>exact⟨0,zFj _,rfl,zH zR⟩
    case round=>
     obtain⟨x,rfl⟩:∃z:World,z=wr:=⟨_,rfl⟩
     obtain⟨j,hj,rfl,z⟩:=hrel
     by_cases a2:j<q
     ·have O:j<s.length:=by rw[a6.out];exact a2
      have Q:=R.1.trans (z.mono R.1.size);obtain⟨e,f,cs,rfl,_,_,⟨v2,v3,rfl,i1,i2⟩,A⟩:=(HE.1.old Q).elem O;obtain⟨t,u,a1,rfl,_,_,⟨u2,u3,rfl,i3,i4⟩,B⟩:=(HE.2.old Q).elem O;have Iq:=zH λw' (hw:Below x x w')=>zC d (i1.keep (.old hw)) (i3.keep (.old hw))
      have SY:=zH λw' (hw:Below x x w')=>zC d (i2.keep (.old hw)) (i4.keep (.old hw))
      generalize s[j].form=fo at *;generalize s[j].type=J at *;have x7:x.cell? ⟨K,2,none⟩=some (.slice (some ⟨e,f,none⟩) q L):=(R.2.1.old z.out).cell 2;have X:x.cell? ⟨M,2,none⟩=some (.slice (some ⟨t,u,none⟩) q N):=(R.2.2.old z.out).cell 2;have p0:x.cell? ⟨e,f+j*4,none⟩=some (.int .i64 (fo:Nat)):=A 0 _ rfl;have p1:x.cell? ⟨e,f+j*4+1,none⟩=some (.int .i64 J):=A 1 _ rfl;have p2:x.cell? ⟨e,f+j*4+2,none⟩=some v2:=A 2 _ rfl;have p3:x.cell? ⟨e,f+j*4+3,none⟩=some v3:=A 3 _ rfl;have q0:x.cell? ⟨t,u+j*4,none⟩=some (.int .i64 (fo:Nat)):=B 0 _ rfl;have q1:x.cell? ⟨t,u+j*4+1,none⟩=some (.int .i64 J):=B 1 _ rfl;have q2:x.cell? ⟨t,u+j*4+2,none⟩=some u2:=B 2 _ rfl;have q3:x.cell? ⟨t,u+j*4+3,none⟩=some u3:=B 3 _ rfl;clear A B i1 i2 i3 i4 HE R O Q;go_upto_region 18 with fail
      refine wx (λk => false) (.is (.pointer (some ⟨K, 2, none⟩)) ::
        .is (.slice (some ⟨e,f,none⟩) q L)::
        .is (.int .i64 (j:Nat))::
        .is (.pointer (some ⟨e,f+j*4,none⟩))::
        .is (.pointer (some ⟨e,f+j*4,none⟩))::
        .is (.int .i64 (fo:Nat))::
        .is (.pointer (some ⟨M,2,none⟩))::
        .is (.slice (some ⟨t,u,none⟩) q N)::
        .is (.int .i64 (j:Nat))::
        .is (.pointer (some ⟨t,u+j*4,none⟩))::
        .is (.pointer (some ⟨t,u+j*4,none⟩))::
        .is (.int .i64 (fo:Nat))::
        .is (.bool false)::
        .is (.bool false)::
        .is (.pointer (some ⟨K,2,none⟩))::
        .is (.slice (some ⟨e,f,none⟩) q L)::
        .is (.int .i64 (j:Nat))::
        .is (.pointer (some ⟨e,f+j*4,none⟩))::
        .is (.pointer (some ⟨e,f+j*4+1,none⟩))::
        .is (.int .i64 J)::
        .is (.pointer (some ⟨M,2,none⟩))::
        .is (.slice (some ⟨t,u,none⟩) q N)::
        .is (.int .i64 (j:Nat))::
        .is (.pointer (some ⟨t,u+j*4,none⟩))::
        .is (.pointer (some ⟨t,u+j*4+1,none⟩))::
        .is (.int .i64 J)::
        .is (.bool false)::
        .is (.bool false)::
        .is (.bool false)::
        .is (.pointer (some ⟨K,2,none⟩))::
        .is (.slice (some ⟨e,f,none⟩) q L)::
        .is (.int .i64 (j:Nat))::
        [.is (.pointer (some ⟨e,f+j*4,none⟩)),
        .is (.pointer (some ⟨e,f+j*4+2,none⟩)),
        .is (v2),
        .is (.pointer (some ⟨M,2,none⟩)),
        .is (.slice (some ⟨t,u,none⟩) q N),
        .is (.int .i64 (j:Nat)),
        .is (.pointer (some ⟨t,u+j*4,none⟩)),
        .is (.pointer (some ⟨t,u+j*4+2,none⟩)),
        .is (u2),
        .is (.bool true),
        .is (.bool false),
        .is (.bool false),
        .is (.bool false),
        .is (.pointer (some ⟨K,2,none⟩)),
        .is (.slice (some ⟨e,f,none⟩) q L),
        .is (.int .i64 (j:Nat)),
        .is (.pointer (some ⟨e,f+j*4,none⟩)),
        .is (.pointer (some ⟨e,f+j*4+3,none⟩)),
        .is (v3),
        .is (.pointer (some ⟨M,2,none⟩)),
        .is (.slice (some ⟨t,u,none⟩) q N),
        .is (.int .i64 (j:Nat)),
        .is (.pointer (some ⟨t,u+j*4,none⟩)),
        .is (.pointer (some ⟨t,u+j*4+3,none⟩)),
        .is (u3),
        .is (.bool true),
        .is (.bool false),
        .is (.bool false)]) [3,9,12,17,23,26,32,38,41,48,54,57] (by kernel_rfl) (by kernel_rfl) (by kernel_rfl)
        (λC=>.c (px C rfl (λ_ _=>rfl)) <|
        .c (px C rfl (λ_ h=>bH (pX (bc h x7)))) <|
        .c (px C rfl (λ_ _=>rfl)) <|
        .c (pz [1,2] [] (by kernel_rfl) λr y wr p m a l=>?_) <|
        .c (px C rfl (λ_ _=>rfl)) <|
        .c (px C rfl (λ_ h=>bH (lD (bc h p0)))) <|
        .c (px C rfl (λ_ _=>rfl)) <|
        .c (px C rfl (λ_ h=>bH (pX (bc h X)))) <|
        .c (px C rfl (λ_ _=>rfl)) <|
        .c (pz [7,8] [] (by kernel_rfl) λr y wr p m a l=>?_) <|
        .c (px C rfl (λ_ _=>rfl)) <|
        .c (px C rfl (λ_ h=>bH (lD (bc h q0)))) <|
        .c (pz [5,11] [] (by kernel_rfl) λr y wr p m a l=>?_) <|
        .c (px C rfl (λ_ _=>rfl)) <|
        .c (px C rfl (λ_ _=>rfl)) <|
        .c (px C rfl (λ_ h=>bH (pX (bc h x7)))) <|
        .c (px C rfl (λ_ _=>rfl)) <|
        .c (pz [15,16] [] (by kernel_rfl) λr y wr p m a l=>?_) <|
        .c (px C rfl (λ_ _=>rfl)) <|
        .c (px C rfl (λ_ h=>bH (lD (bc h p1)))) <|
        .c (px C rfl (λ_ _=>rfl)) <|
        .c (px C rfl (λ_ h=>bH (pX (bc h X)))) <|
        .c (px C rfl (λ_ _=>rfl)) <|
        .c (pz [21,22] [] (by kernel_rfl) λr y wr p m a l=>?_) <|
        .c (px C rfl (λ_ _=>rfl)) <|
        .c (px C rfl (λ_ h=>bH (lD (bc h q1)))) <|
        .c (pz [19,25] [] (by kernel_rfl) λr y wr p m a l=>?_) <|
        .c (px C rfl (λ_ _=>rfl)) <|
        .c (px C rfl (λ_ _=>rfl)) <|
        .c (px C rfl (λ_ _=>rfl)) <|
        .c (px C rfl (λ_ h=>bH (pX (bc h x7)))) <|
        .c (px C rfl (λ_ _=>rfl)) <|
        .c (pz [30,31] [] (by kernel_rfl) λr y wr p m a l=>?_) <|
        .c (px C rfl (λ_ _=>rfl)) <|
        .c (px C rfl (λ_ h=>bH (jD (bc h p2)))) <|
        .c (px C rfl (λ_ _=>rfl)) <|
        .c (px C rfl (λ_ h=>bH (pX (bc h X)))) <|
        .c (px C rfl (λ_ _=>rfl)) <|
        .c (pz [36,37] [] (by kernel_rfl) λr y wr p m a l=>?_) <|
        .c (px C rfl (λ_ _=>rfl)) <|
        .c (px C rfl (λ_ h=>bH (jD (bc h q2)))) <|
        .c (pz [34,40] [] (by kernel_rfl) λr y wr p m a l=>?_) <|
        .c (px C rfl (λ_ _=>rfl)) <|
        .c (px C rfl (λ_ _=>rfl)) <|
        .c (px C rfl (λ_ _=>rfl)) <|
        .c (px C rfl (λ_ _=>rfl)) <|
        .c (px C rfl (λ_ h=>bH (pX (bc h x7)))) <|
        .c (px C rfl (λ_ _=>rfl)) <|
        .c (pz [46,47] [] (by kernel_rfl) λr y wr p m a l=>?_) <|
        .c (px C rfl (λ_ _=>rfl)) <|
        .c (px C rfl (λ_ h=>bH (jD (bc h p3)))) <|
        .c (px C rfl (λ_ _=>rfl)) <|
        .c (px C rfl (λ_ h=>bH (pX (bc h X)))) <|
        .c (px C rfl (λ_ _=>rfl)) <|
        .c (pz [52,53] [] (by kernel_rfl) λr y wr p m a l=>?_) <|
        .c (px C rfl (λ_ _=>rfl)) <|
        .c (px C rfl (λ_ h=>bH (jD (bc h q3)))) <|
        .c (pz [50,56] [] (by kernel_rfl) λr y wr p m a l=>?_) <|
        .c (px C rfl (λ_ _=>rfl)) <|
        .c (px C rfl (λ_ _=>rfl)) <| .nil) ?_
      ·have b1:=aA a.1 rfl rfl;have b3:=aA a.2.1 rfl rfl;clear m a;go_simp;refine l _ _ zR ?_
       show(_:Value)=_
       first|rfl|(simp;done)|(simp;omega)
      ·have b0:=aA a.1 rfl rfl;have ao:=aA a.2.1 rfl rfl;clear m a;go_simp;refine l _ _ zR ?_
       show(_:Value)=_
       first|rfl|(simp;done)|(simp;omega)
      ·have b4:=aA a.1 rfl rfl;have O:=aA a.2.1 rfl rfl;clear m a;go_simp;refine l _ _ zR ?_
       show(_:Value)=_
       first|rfl|(simp;done)|(simp;omega)
      ·have ad:=aA a.1 rfl rfl;have y:=aA a.2.1 rfl rfl;clear m a;go_simp;refine l _ _ zR ?_
       show(_:Value)=_
       first|rfl|(simp;done)|(simp;omega)
      ·have an:=aA a.1 rfl rfl;have ab:=aA a.2.1 rfl rfl;clear m a;go_simp;refine l _ _ zR ?_
       show(_:Value)=_
       first|rfl|(simp;done)|(simp;omega)
      ·have al:=aA a.1 rfl rfl;have aq:=aA a.2.1 rfl rfl;clear m a;go_simp;refine l _ _ zR ?_
       show(_:Value)=_
       first|rfl|(simp;done)|(simp;omega)
      ·have ag:=aA a.1 rfl rfl;have av:=aA a.2.1 rfl rfl;clear m a;go_simp;refine l _ _ zR ?_
       show(_:Value)=_
       first|rfl|(simp;done)|(simp;omega)
      ·have af:=aA a.1 rfl rfl;have ak:=aA a.2.1 rfl rfl;clear m a;go_simp;refine l _ _ zR ?_
       show(_:Value)=_
       first|rfl|(simp;done)|(simp;omega)
      ·have Q:=aA a.1 rfl rfl;have aa:=aA a.2.1 rfl rfl;clear m a;go_simp
       go_at_call 28
       refine(Iq.out wr p).mono ?_;rintro r w9 ⟨rfl,h⟩;exact l _ _ h rfl
      ·have a8:=aA a.1 rfl rfl;have aw:=aA a.2.1 rfl rfl;clear m a;go_simp;refine l _ _ zR ?_
       show(_:Value)=_
       first|rfl|(simp;done)|(simp;omega)
      ·have ap:=aA a.1 rfl rfl;have am:=aA a.2.1 rfl rfl;clear m a;go_simp;refine l _ _ zR ?_
       show(_:Value)=_
       first|rfl|(simp;done)|(simp;omega)
      ·have ar:=aA a.1 rfl rfl;have a9:=aA a.2.1 rfl rfl;clear m a;go_simp
       go_at_call 28
       refine(SY.out wr p).mono ?_;rintro r w9 ⟨rfl,h⟩;exact l _ _ h rfl
      intro qx wr p hR hS;clear hR hS;simp only[bJ,zF0,zGb,zF1,zFp,zFd,zFh,zF4,Act.put,zFf,zFw,zFx];refine zM ?_;go_wp2_with fail
      go_roundw
      case rel=>exact⟨j+1,a2,by go_num,zH (z.trans (p.mono z.size))⟩
      case measure=>simp[intOf];omega
     obtain rfl:j=q:=by omega
     go_wp2_with fail
     go_roundw
     case rel=>exact⟨k+1,E,by go_num,zH (g.trans (((R.1.trans (z.mono R.1.size))).mono g.size))⟩
     case measure=>simp[intOf];omega
   obtain rfl:k=n:=by omega
   go_wp2_with fail
   go_ret
   exact⟨rfl,HB.trans (g.mono HB.size)⟩
end
end Go.Proofs.YtbjnhllkdilpfaaGreat
