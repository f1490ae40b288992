/- Part 16 of the proof. No conditions. -/
import Derived.Test.YtbjnhllkdilpfaaGreatZf15
set_option linter.unusedVariables false
set_option linter.unusedSimpArgs false
set_option maxRecDepth 100000
set_option maxHeartbeats 16000000
namespace Go.Proofs.YtbjnhllkdilpfaaGreat
open Go.RowKit _root_.Go.Proofs.Tryz
def sU (P:Nat->Prop) (w:World) (B:Nat) (e:az) (v:Value) (W:World):Prop:=
 ∃css:List (List Value),W.ownsRow B 110 7 v css.length css.flatten/\jZ P w (jB e) css
theorem sU.old {P:Nat->Prop} {w W W':World} {B:Nat} {e:az} {v:Value} (h:sU P w B e v W) (hb:Below W W W'):sU P w B e v W':=by
 obtain⟨a,b,c⟩:=h;exact⟨a,aT b hb,c⟩
theorem Ue {P:Nat->Prop} (x y:az) (g p:Nat) (s B t u M O E G N n o F H L:Value) (w:World) (hP:∀q,P q->q<w.heap.size) (Z:Bk w g 110 #[s,B,t,u,M,O,E,G,N,n,o,F,H,L])
  (hx:∀W,Below w w W->Calls prog 60 #[.agg #[s,B,t,u,M,O,E]] W (Pe P x W)) (hy:∀W,Below w w W->Calls prog 60 #[.agg #[G,N,n,o,F,H,L]] W (Pe P y W)) (hs:aF x+aF y<=1000000):
  Calls prog 60 #[.agg #[.int .i64 13,.slice (some ⟨g,0,none⟩) 2 2,(),(),.string ⟨#[]⟩,.string ⟨#[]⟩,p]] w (Pe P (.bin 13 x y p) w):=by
 have HX:Hid (∀W,Below w w W->Calls prog 60 #[.agg #[s,B,t,u,M,O,E]] W λr W'=>∃v,r=.returned v/\sU P w w.heap.size x v W'/\Below W.heap.size W W'):=zH λW a=>(hx W a).mono (by
  rintro r W' ⟨v,b,rfl,f,e,h⟩
  exact⟨v,rfl,⟨b,bV f a.size,e.keep λq d _=>⟨d,(a.block q (hP q d)).symm⟩⟩,h⟩)
 have HY:Hid (∀W,Below w w W->Calls prog 60 #[.agg #[G,N,n,o,F,H,L]] W λr W'=>∃v,r=.returned v/\sU P w w.heap.size y v W'/\Below W.heap.size W W'):=zH λW a=>(hy W a).mono (by
  rintro r W' ⟨v,b,rfl,f,e,h⟩
  exact⟨v,rfl,⟨b,bV f a.size,e.keep λq d _=>⟨d,(a.block q (hP q d)).symm⟩⟩,h⟩)
 obtain⟨iT,hT,X,Y,U⟩:=zG4 Ua;have a6:=Z.lt;have a9:=qH x;have ab:=qH y
 go_enter func60,ntmps60
 have d:=Bk.new w 110 #[.int .i64 13,.slice (some ⟨g,0,none⟩) 2 2,(),(),.string ⟨#[]⟩,.string ⟨#[]⟩,p];have f:Below w w (w.alloc (.cells #[.int .i64 13,.slice (some ⟨g,0,none⟩) 2 2,(),(),.string ⟨#[]⟩,.string ⟨#[]⟩,p] 110)):=zR.alloc zL _;have b0:(w.alloc (.cells #[.int .i64 13,.slice (some ⟨g,0,none⟩) 2 2,(),(),.string ⟨#[]⟩,.string ⟨#[]⟩,p] 110)).cell? ⟨w.heap.size,0,none⟩=some (.int .i64 13):=d.cell 0;have b1:(w.alloc (.cells #[.int .i64 13,.slice (some ⟨g,0,none⟩) 2 2,(),(),.string ⟨#[]⟩,.string ⟨#[]⟩,p] 110)).cell? ⟨w.heap.size,1,none⟩=some (.slice (some ⟨g,0,none⟩) 2 2):=d.cell 1;have a:=Z.old f;have q0:(w.alloc (.cells #[.int .i64 13,.slice (some ⟨g,0,none⟩) 2 2,(),(),.string ⟨#[]⟩,.string ⟨#[]⟩,p] 110)).cell? ⟨g,0,none⟩=some s:=a.cell 0;have q1:(w.alloc (.cells #[.int .i64 13,.slice (some ⟨g,0,none⟩) 2 2,(),(),.string ⟨#[]⟩,.string ⟨#[]⟩,p] 110)).cell? ⟨g,1,none⟩=some B:=a.cell 1;have q2:(w.alloc (.cells #[.int .i64 13,.slice (some ⟨g,0,none⟩) 2 2,(),(),.string ⟨#[]⟩,.string ⟨#[]⟩,p] 110)).cell? ⟨g,2,none⟩=some t:=a.cell 2;have q3:(w.alloc (.cells #[.int .i64 13,.slice (some ⟨g,0,none⟩) 2 2,(),(),.string ⟨#[]⟩,.string ⟨#[]⟩,p] 110)).cell? ⟨g,3,none⟩=some u:=a.cell 3
 have q4:(w.alloc (.cells #[.int .i64 13,.slice (some ⟨g,0,none⟩) 2 2,(),(),.string ⟨#[]⟩,.string ⟨#[]⟩,p] 110)).cell? ⟨g,4,none⟩=some M:=a.cell 4;have q5:(w.alloc (.cells #[.int .i64 13,.slice (some ⟨g,0,none⟩) 2 2,(),(),.string ⟨#[]⟩,.string ⟨#[]⟩,p] 110)).cell? ⟨g,5,none⟩=some O:=a.cell 5;have q6:(w.alloc (.cells #[.int .i64 13,.slice (some ⟨g,0,none⟩) 2 2,(),(),.string ⟨#[]⟩,.string ⟨#[]⟩,p] 110)).cell? ⟨g,6,none⟩=some E:=a.cell 6;have q7:(w.alloc (.cells #[.int .i64 13,.slice (some ⟨g,0,none⟩) 2 2,(),(),.string ⟨#[]⟩,.string ⟨#[]⟩,p] 110)).cell? ⟨g,0+7,none⟩=some G:=a.cell 7;have q8:(w.alloc (.cells #[.int .i64 13,.slice (some ⟨g,0,none⟩) 2 2,(),(),.string ⟨#[]⟩,.string ⟨#[]⟩,p] 110)).cell? ⟨g,0+7+1,none⟩=some N:=a.cell 8;have q9:(w.alloc (.cells #[.int .i64 13,.slice (some ⟨g,0,none⟩) 2 2,(),(),.string ⟨#[]⟩,.string ⟨#[]⟩,p] 110)).cell? ⟨g,0+7+2,none⟩=some n:=a.cell 9;have A:(w.alloc (.cells #[.int .i64 13,.slice (some ⟨g,0,none⟩) 2 2,(),(),.string ⟨#[]⟩,.string ⟨#[]⟩,p] 110)).cell? ⟨g,0+7+3,none⟩=some o:=a.cell 10;have K:(w.alloc (.cells #[.int .i64 13,.slice (some ⟨g,0,none⟩) 2 2,(),(),.string ⟨#[]⟩,.string ⟨#[]⟩,p] 110)).cell? ⟨g,0+7+4,none⟩=some F:=a.cell 11
 have D:(w.alloc (.cells #[.int .i64 13,.slice (some ⟨g,0,none⟩) 2 2,(),(),.string ⟨#[]⟩,.string ⟨#[]⟩,p] 110)).cell? ⟨g,0+7+5,none⟩=some H:=a.cell 12;have z:(w.alloc (.cells #[.int .i64 13,.slice (some ⟨g,0,none⟩) 2 2,(),(),.string ⟨#[]⟩,.string ⟨#[]⟩,p] 110)).cell? ⟨g,0+7+6,none⟩=some L:=a.cell 13;go_upto_region 1 with fail
 clear hx hy Z a d;generalize w.alloc (.cells #[.int .i64 13,.slice (some ⟨g,0,none⟩) 2 2,(),(),.string ⟨#[]⟩,.string ⟨#[]⟩,p] 110)=w0 at *;have a2:w.heap.size<w0.heap.size:=zHs _ _ b0;go_upto_region 3 with fail
 generalize I:w.heap.size=i at *;have l:i<=w0.heap.size:=by omega
 refine wx (λk => false) [.is (.pointer (some ⟨i, 1, none⟩)),
   .is (.slice (some ⟨g,0,none⟩) 2 2),
   .is (.pointer (some ⟨g,0,none⟩)),
   .is (.agg #[s,B,t,u,M,O,E]),
   .st (sU P w i x) (λ_ _ _ hb h=>sU.old h hb),
   .is (.pointer (some ⟨i,1,none⟩)),
   .is (.slice (some ⟨g,0,none⟩) 2 2),
   .is (.pointer (some ⟨g,0+7,none⟩)),
   .is (.agg #[G,N,n,o,F,H,L]),
   .st (sU P w i y) (λ_ _ _ hb h=>sU.old h hb)] [3,4,8,9] (by kernel_rfl) (by kernel_rfl) (by kernel_rfl)
   (λC=>.c (px C rfl (λ_ _=>rfl)) <|
   .c (px C rfl (λ_ h=>bH (zAt (bc h b1)))) <|
   .c (px C rfl (λ_ _=>rfl)) <|
   .c (pz [2] [] (by kernel_rfl) λm J wr a j d e=>?_) <|
   .c (pz [3] [] (by kernel_rfl) λm J wr a j d e=>?_) <|
   .c (px C rfl (λ_ _=>rfl)) <|
   .c (px C rfl (λ_ h=>bH (zAt (bc h b1)))) <|
   .c (px C rfl (λ_ _=>rfl)) <|
   .c (pz [7] [] (by kernel_rfl) λm J wr a j d e=>?_) <|
   .c (pz [8] [] (by kernel_rfl) λm J wr a j d e=>?_) <| .nil) ?_
 ·have a5:=aA d.1 rfl rfl;clear j d;have a8:=zE a q0;have al:=zE a q1;have am:=zE a q2;have a1:=zE a q3;have af:=zE a q4;have a7:=zE a q5;have ag:=zE a q6;go_simp;exact e _ _ zR rfl
 ·have ad:=aA d.1 rfl rfl;clear j d;go_simp
  go_at_call 60
  refine(HX.out wr (f.trans (a.mono l))).mono ?_;rintro r w9 ⟨v9,rfl,m,h⟩;exact e _ _ h m
 ·have a0:=aA d.1 rfl rfl;clear j d;have a3:=zE a q7;have ak:=zE a q8;have a4:=zE a q9;have Q:=zE a A;have R:=zE a K;have S:=zE a D;have J:=zE a z;go_simp;exact e _ _ zR rfl
 ·have aa:=aA d.1 rfl rfl;clear j d;go_simp
  go_at_call 60
  refine(HY.out wr (f.trans (a.mono l))).mono ?_;rintro r w9 ⟨v9,rfl,m,h⟩;exact e _ _ h m
 intro R wr a d e;have j:(sU P w i x) (R 4) wr:=d 4 rfl rfl;have r:(sU P w i y) (R 9) wr:=d 9 rfl rfl;clear d e;simp only[bJ,zF0,zGb,zF1,zFp,zFd,zFh,zF4,Act.put,zFf,zFw,zFx];generalize R 4=a5 at j⊢;generalize R 9=a3 at r⊢;obtain⟨b,h,e⟩:=j;obtain⟨j,m,d⟩:=r;obtain⟨a1,a7,S⟩:=e.len;obtain⟨a4,a0,Q⟩:=d.len;obtain⟨Ax,cx,rfl,_⟩:=aK h;obtain⟨Ay,cy,rfl,_⟩:=aK m;have J:=f.trans (a.mono l);have r:=fM m;have HC:=zH (jZ.app e d);have xK:=zH J;have HM:=zH Q;clear e d S Q m b0 b1 q0 q1 q2 q3 q4 q5 q6 q7 q8 q9 A K D z HX HY;go_wp2_with (at_builtin;refine aU rfl _ _ 50 rfl i 110 iT _ 7 88 underlying50 hT X Y U rfl (by decide) (.slice Ax b.length cx) b.length _ rfl h wr.heap.size Ay j.length cy j.flatten rfl r a0 HM.out (by unfold maxLen;omega) (by omega) (by have:=J.size;omega) ?_;intro D K A e m z;refine Hid.out ?_)
 refine zH ?_;go_wp2
 go_ret
 subst I;have d:jB (.bin 13 x y p)=jB x++jB y:=by show(if 13=13 then _ else _)=_;rw[zF3 rfl]
 refine⟨_,b++j,rfl,?_,by rw[d];exact HC.out,eU xK.out h (by omega) m (by have:=xK.size;omega)⟩;rw[zFu,List.flatten_append];exact e
theorem Ci {P:Nat->Prop}:∀(e:az) (cs:List Value) (w:World),(∀q,P q->q<w.heap.size)->mM P w e cs->vX e->aF e<=1000000->
  Calls prog 60 #[.agg cs.toArray] w (Pe P e w)
 |.leaf op n o m a p,cs,w,f,h,c,k=>by
  have i:=h;obtain rfl:cs=iF op n o m a p:=h;refine(Cf op c _ _ _ _ _ _ w).mono ?_;rintro r w' ⟨v,rfl,d,e⟩;exact⟨v,[iF op n o m a p],rfl,by simpa[iF]using d,⟨i,trivial⟩,e⟩
 |.un op x p,cs,w,f,h,c,k=>by
  have i:=h;obtain⟨g,xs,rfl,_⟩:=h;refine(Cf op c.1 _ _ _ _ _ _ w).mono ?_;rintro r w' ⟨v,rfl,d,e⟩;exact⟨v,[opC op g 1 p],rfl,by simpa[opC]using d,⟨i,trivial⟩,e⟩
 |.bin op x y p,cs,w,f,h,c,k=>by
  have i:=h;obtain⟨g,xs,O,rfl,A,N,t,s⟩:=h
  by_cases b:op=13
  ·subst b;have k:1+aF x+aF y<=1000000:=k;obtain⟨E,K,G,I,F,J,M,rfl,_⟩:=t.seven;obtain⟨C,H,u,D,z,L,B,rfl,_⟩:=s.seven
   exact Ue x y g p E K G I F J M C H u D z L B w f N
    (λW j=>Ci x _ W (λq l=>zFs (f q l) j.size) (t.old j) c.1 (by omega))
    (λW j=>Ci y _ W (λq l=>zFs (f q l) j.size) (s.old j) c.2 (by omega)) (by omega)
  have j:jB (.bin op x y p)=[.bin op x y p]:=by show(if op=13 then _ else _)=_;rw[zF2 b]
  refine(Cf op b _ _ _ _ _ _ w).mono ?_;rintro r w' ⟨v,rfl,d,e⟩;exact⟨v,[opC op g 2 p],rfl,by simpa[opC]using d,by rw[j];exact⟨i,trivial⟩,e⟩
structure xM (s:PS) (r:az×PS):Prop where
 nodes:aF r.1<=1+2*(r.2.i-s.i)
 plain:vX r.1
section
variable {L:List aC}
theorem few0 (s:PS):xM s (BG,s):=⟨by show 1<=_;omega,by show(0:Nat)≠13;decide⟩
theorem Gw (pos:Nat) (s:PS):∀(l:List Str) (i op:Nat) (n a:Str) (x:PS),op=0\/25<=op->(jI L pos i l (op,n,a,x)).1=0\/25<=(jI L pos i l (op,n,a,x)).1
 |[],_,_,_,_,_,h=>h
 |w::l,i,op,n,a,x,h=>by
  rw[BU]
  split
  ·obtain⟨b,d,c⟩:Str×Str×PS:=TB L x i;exact Gw pos s l _ _ _ _ _ (.inr (by omega))
  exact Gw pos s l _ _ _ _ _ h
theorem Uf (pos:Nat) (s:PS):xM s (fA L pos s):=by
 have h:=Gw (L:=L) pos s jX 0 0 [] [] s (.inl rfl);unfold fA;generalize jI L pos 0 jX (0,[],[],s)=r at *;obtain⟨op,n,a,x⟩:=r;simp only at h;refine⟨?_,?_⟩
 ·show 1<=_;omega
 show op≠13;omega
theorem xM.leaf {s c:PS} {op n b p:Nat} {d a:Str} (h:op≠13):xM s (.leaf op n b d a p,c):=⟨by show 1<=_;omega,h⟩
theorem Ug (a:dS L) (b:PS->az×PS) (j:∀s,iy L s->xM s (b s)) (g:∀s,iy L s->bF L s (b s).2) (s:PS) (h:iy L s):xM s (pR L b s):=by
 unfold pR;simp only[]
 split
 ·exact xM.leaf (by decide)
 split
 ·exact xM.leaf (by decide)
 split
 ·exact xM.leaf (by decide)
 split
 ·exact xM.leaf (by decide)
 split
 ·rename_i c
  have e:=bM c;have d:=(jk a h e).1;have f:=j _ d;have k:=g _ d;have l:=(bF.need a [41] k.ok).le;have m:(dG L s).i=s.i+1:=(jk a h e).2.1;refine⟨zFi f.nodes ?_,f.plain⟩
  show 1+2*((b (dG L s)).2.i-(dG L s).i)<=1+2*((aQ L [41] (b (dG L s)).2).i - s.i)
  omega
 split
 ·exact xM.leaf (by decide)
 split
 ·rename_i c
  have e:(bC L s).kind≠0:=by
   rcases zKz.1 c with c|c<;>exact bM c
  have n:=(jk a h e).1;have d:=bF.need a [40] n;have f:=j _ d.ok;have k:=g _ d.ok;have l:=(bF.need a [41] k.ok).le;have m:(dG L s).i=s.i+1:=(jk a h e).2.1;have o:=d.le;have q:=f.nodes;have p:=k.le;refine⟨?_,⟨by split<;>decide,f.plain⟩⟩
  show 1+aF (b (aQ L [40] (dG L s))).1<=1+2*((aQ L [41] (b (aQ L [40] (dG L s))).2).i - s.i)
  omega
 exact Uf _ s
theorem Ji (m:dS L) (b:PS->az×PS) (d:∀s,iy L s->xM s (b s)) (e:∀s,iy L s->bF L s (b s).2) (a:Nat) (f:PS):∀(k:Nat) (x:az) (s:PS),iy L s->f.i<=s.i->aF x<=1+2*(s.i-f.i)->vX x->xM f (rQ L b a k x s)
 |0,x,s,h,r,g,c=>⟨g,c⟩
 |k+1,x,s,h,r,g,c=>by
  rw[Ce]
  split
  ·exact⟨g,c⟩
  split
  ·exact⟨g,c⟩
  rename_i j
  have q:=Jf j;have p:=bF.next m h q;have l:=d _ p.ok;have o:=e _ p.ok;have u:s.i+1<=(b (aO s)).2.i:=o.le;have t:aF (b (aO s)).1<=1+2*((b (aO s)).2.i-(s.i+1)):=l.nodes
  have n:aF (.bin (WZ L a s) x (b (aO s)).1 (bC L s).pos)<=1+2*((b (aO s)).2.i-f.i):=by
   show 1+aF x+aF (b (aO s)).1<=_
   omega
  split
  ·exact⟨n,c,l.plain⟩
  exact Ji m b d e a f k _ _ o.ok (by omega) n ⟨c,l.plain⟩
theorem nJ (b:dS L):∀(f a:Nat) (s:PS),iy L s->xM s (aW L f a s)
 |0,_,s,h=>few0 s
 |f+1,a,s,h=>by
  rw[yN]
  split
  ·exact few0 s
  split
  ·unfold sN
   split
   ·rename_i g
    have e:=bM g;have c:=(jk b h e).1;have d:=nJ b f a _ c;have k:=(fO b f a _ c).le;have l:(dG L s).i=s.i+1:=(jk b h e).2.1;have j:=d.nodes;refine⟨?_,⟨by unfold II;split<;>decide,d.plain⟩⟩
    show 1+aF (aW L f a (dG L s)).1<=1+2*((aW L f a (dG L s)).2.i-s.i)
    omega
   exact nJ b f _ s h
  split
  ·exact Ug b _ (λs h=>nJ b f 1 s h) (λs h=>fO b f 1 s h) s h
  have c:=nJ b f (a+1) s h;have d:=fO b f (a+1) s h;exact Ji b _ (λs h=>nJ b f (a+1) s h) (λs h=>fO b f (a+1) s h) a s _ _ _ d.ok d.le c.nodes c.plain
theorem Jj (c:dS L) (i:Nat) (g:i<L.length):aF (mV L i).1<=1+2*L.length/\vX (mV L i).1/\((mV L i).2.2.2=0->i<=(mV L i).2.1/\(mV L i).2.1<L.length):=by
 have a:iy L ⟨i,0,0,0⟩:=⟨g,zFj _⟩
 have d:=nJ c (lZ L) 1 _ a;have b:=fO c (lZ L) 1 _ a;have f:mV L i=if(aW L (lZ L) 1 ⟨i,0,0,0⟩).2.err≠0 then(BG,0,(aW L (lZ L) 1 ⟨i,0,0,0⟩).2.pos,(aW L (lZ L) 1 ⟨i,0,0,0⟩).2.err)else((aW L (lZ L) 1 ⟨i,0,0,0⟩).1,(aW L (lZ L) 1 ⟨i,0,0,0⟩).2.i,0,0):=rfl
 rw[f]
 split
 ·rename_i e
  refine⟨by show 1<=_;omega,by show(0:Nat)≠13;decide,λh=>absurd h e⟩
 have:=d.nodes;have:=b.ok.lt;have:=b.le;exact⟨by show aF (aW L (lZ L) 1 ⟨i,0,0,0⟩).1<=1+2*L.length;omega,d.plain,λ_=>⟨b.le,b.ok.lt⟩⟩
end
def bn.cells (x:bn):List Value:=[.int .i64 x.form,.string (bytes x.type),.string (bytes x.name),.int .i64 x.pos]
theorem yO {L:List aC} {s:PS} {n:Nat} (h:(decide (n=8)&&(decide ((bC L s).kind=2)||fD L s [33]))=true):jY L n s=(⟨0,[],[],0⟩,bf L 2 s):=by
 unfold jY;simp only[];rw[zF3 (by simpa using h)]
structure Zq (b:Nat) (t:TypeId) (rest:List Value) (L:List aC) (LA:Option Addr) (Lc:Nat) (gr g5:Nat) (T:aC) (w:World) (x:PS) (W:World):Prop where
 st:dH b t rest L LA Lc x W
 kr:Bk W gr 136 #[(),.string ⟨#[]⟩,.string ⟨#[]⟩,()]
 k5:Bk W g5 94 #[T.kind,.string (bytes T.text),T.n,T.scale,T.pos]
 gw:w.grownBy W (some b)
section
variable {b:Nat} {t:TypeId} {rest:List Value} {L:List aC} {LA:Option Addr} {Lc gr g5:Nat} {T:aC} {w W W':World} {x y:PS}
theorem Zq.old (h:Zq b t rest L LA Lc gr g5 T w x W) (hb:Below W W W'):Zq b t rest L LA Lc gr g5 T w x W':=
 ⟨h.st.old hb,h.kr.old hb,h.k5.old hb,h.gw.trans (below_grown hb (some b))⟩
theorem Zq.steps (h:Zq b t rest L LA Lc gr g5 T w x W) (d:b<gr) (c:b<g5) (a:Steps b t rest L LA Lc y W W'):Zq b t rest L LA Lc gr g5 T w y W':=
 ⟨a.st,h.kr.grown a.grown (aG (by omega)),h.k5.grown a.grown (aG (by omega)),h.gw.trans a.grown⟩
end
theorem Uh:(prog.info? 136).map (λi=>(i.zero,i.size,i.bytes))=some (some (.agg #[(),.string ⟨#[]⟩,.string ⟨#[]⟩,()]),4,48):=by kernel_rfl
theorem yP (w:World):(sizeOf 136).run prog w=.ok 4 w:=by
 obtain⟨i,b,c,a,d⟩:=zG4 Uh;simp[sizeOf,typeInfo,b,a]
theorem Gy {L:List aC} {s:PS} {n:Nat} (h:(decide (n=8)&&(decide ((bC L s).kind=2)||fD L s [33]))=false):
  jY L n s=(
   let b:=fD L s [33]
   let c:=if b then aO s else s
   let a:=decide ((dK L c).2.err=0)&&(!b&&fD L (dK L c).2 [43])
   let d:=if a then aO (dK L c).2 else(dK L c).2
   (⟨if b then 3 else if a then 2 else 1,(dK L c).1,(dK L d).1,(bC L s).pos⟩,(dK L d).2)):=by
 unfold jY;simp only[];rw[zF2 (by simpa using h)]
structure LU (b:Nat) (t:TypeId) (rest:List Value) (L:List aC) (LA:Option Addr) (Lc:Nat) (gr g6:Nat) (cs:List Value) (w:World) (x:PS) (W:World):Prop where
 st:dH b t rest L LA Lc x W
 kr:Bk W gr 136 #[(),.string ⟨#[]⟩,.string ⟨#[]⟩,()]
 k6:Bk W g6 136 cs.toArray
 gw:w.grownBy W (some b)
section
variable {b:Nat} {t:TypeId} {rest:List Value} {L:List aC} {LA:Option Addr} {Lc gr g6:Nat} {cs:List Value} {w W W':World} {x y:PS}
theorem LU.old (h:LU b t rest L LA Lc gr g6 cs w x W) (hb:Below W W W'):LU b t rest L LA Lc gr g6 cs w x W':=
 ⟨h.st.old hb,h.kr.old hb,h.k6.old hb,h.gw.trans (below_grown hb (some b))⟩
theorem LU.steps (h:LU b t rest L LA Lc gr g6 cs w x W) (d:b<gr) (c:b<g6) (a:Steps b t rest L LA Lc y W W'):LU b t rest L LA Lc gr g6 cs w y W':=
 ⟨a.st,h.kr.grown a.grown (aG (by omega)),h.k6.grown a.grown (aG (by omega)),h.gw.trans a.grown⟩
theorem LU.put (h:LU b t rest L LA Lc gr g6 cs w x W) (a:b<g6) (c:w.heap.size<=g6) (d:gr<g6) (i:Nat) (v:Value):LU b t rest L LA Lc gr g6 (cs.set i v) w x (W.setCell ⟨g6,i,none⟩ v):=
 ⟨h.st.far a v,h.kr.far (p:=⟨g6,i,none⟩) (by show gr≠g6;omega) v,by simpa using h.k6.put i v,xE h.gw c⟩
theorem LU.next (h:LU b t rest L LA Lc gr g6 cs w x W) (c:b<gr) (a:b<g6):LU b t rest L LA Lc gr g6 cs w (aO x) (W.setCell ⟨b,1,none⟩ (.int .i64 ((x.i:Int)+1))):=
 h.steps c a (step_next b t rest L LA Lc x W h.st)
end
theorem bF.Pg {L:List aC} {s:PS} (b:dS L) (h:iy L s):bF L s (dK L s).2:=by
 unfold dK
 split
 ·exact bF.fail _ h
 rename_i a
 exact bF.next b h (by intro c;apply a;right;rw[c];decide)
section
variable (b:Nat) (t:TypeId) (rest:List Value) (L:List aC) (LA:Option Addr) (Lc:Nat) (s:PS) (w:World)
theorem Ui (n:Nat) (h:dH b t rest L LA Lc s w) (he:dS L) (Y:iy L s) (hL:L.length<=4001) (hn:n<=8):
  Calls prog 57 #[.pointer (some ⟨b,0,none⟩),n] w λr w'=>r=.returned (.agg (jY L n s).1.cells.toArray)/\Steps b t rest L LA Lc (jY L n s).2 w w':=by
 have a4:=Y.lt;obtain⟨E,tq,j,ag,e⟩:=h.rd.elem (n:=5) xA (by omega) Y.lt;have r0:w.cell? ⟨E,tq+s.i*5,none⟩=some (.int .i64 L[s.i].kind):=e 0 _ rfl;have r1:w.cell? ⟨E,tq+s.i*5+1,none⟩=some (.string (bytes L[s.i].text)):=e 1 _ rfl;have r2:w.cell? ⟨E,tq+s.i*5+2,none⟩=some (.int .i64 L[s.i].n):=e 2 _ rfl;have r3:w.cell? ⟨E,tq+s.i*5+3,none⟩=some (.int .i64 L[s.i].scale):=e 3 _ rfl;have r4:w.cell? ⟨E,tq+s.i*5+4,none⟩=some (.int .i64 L[s.i].pos):=e 4 _ rfl;have c0:=h.c0;have c1:=h.c1;rw[j]at c0;have a1:=h.bk.lt;have o:=zH h;obtain⟨af,d⟩:=zN (jY L n s)
 rw[d];have aH:=zH d;clear e d
 go_enter func57,ntmps57
 go_upto_region 1 with fail
 have m:Below w w (w.alloc (.cells #[(),.string ⟨#[]⟩,.string ⟨#[]⟩,()] 136)):=zR.alloc zL _;have l:Bk (w.alloc (.cells #[(),.string ⟨#[]⟩,.string ⟨#[]⟩,()] 136)) w.heap.size 136 #[(),.string ⟨#[]⟩,.string ⟨#[]⟩,()]:=Bk.new w 136 _;have a0:b<w.heap.size:=a1;have y:E<w.heap.size:=by omega
 replace c0:=(bK m b 0 a0).trans c0;replace c1:=(bK m b 1 a0).trans c1;replace r0:=(bK m E _ y).trans r0;replace r1:=(bK m E _ y).trans r1;replace r2:=(bK m E _ y).trans r2;replace r3:=(bK m E _ y).trans r3;replace r4:=(bK m E _ y).trans r4;have q:=zH (o.old m);have f:=zH l;have p:=zH (below_grown m (some b));have al:=l.lt;have HT:Hid (bC L s=L[s.i]):=zH (uo a4);obtain⟨i,d⟩:∃i,s.i=i:=⟨_,rfl⟩
 have ak:=zH d;generalize L[s.i]=T at *;rw[d]at c1 r0 r1 r2 r3 r4 a4;clear h j o d;generalize w.alloc (.cells #[(),.string ⟨#[]⟩,.string ⟨#[]⟩,()] 136)=W at *
 refine wx (λk => k == 12) [.is (.pointer (some ⟨b, 0, none⟩)),
   .is (.pointer (some ⟨b,0,none⟩)),
   .is (.pointer (some ⟨b,0,none⟩)),
   .is (.pointer (some ⟨b,0,none⟩)),
   .is (.slice (some ⟨E,tq,none⟩) L.length Lc),
   .is (.pointer (some ⟨b,0,none⟩)),
   .is (.pointer (some ⟨b,0,none⟩)),
   .is (.pointer (some ⟨b,0,none⟩)),
   .is (.pointer (some ⟨b,1,none⟩)),
   .is (.int .i64 (i:Nat)),
   .is (.pointer (some ⟨E,tq+i*5,none⟩)),
   .is (.agg #[T.kind,.string (bytes T.text),T.n,T.scale,T.pos]),
   .st (λv w=>∃g,v=.pointer (some ⟨g,0,none⟩)/\W.heap.size<=g/\Bk w g 94 #[(),.string ⟨#[]⟩,(),(),()]) (λ_ _ _ hb ⟨g,e,N,d⟩=>⟨g,e,N,d.old hb⟩)] [10,11,12] (by kernel_rfl) (by kernel_rfl) (by kernel_rfl)
   (λC=>.c (px C rfl (λ_ _=>rfl)) <|
   .c (px C rfl (λ_ _=>rfl)) <|
   .c (px C rfl (λ_ _=>rfl)) <|
   .c (px C rfl (λ_ _=>rfl)) <|
   .c (px C rfl (λ_ h=>bH (XR (bc h c0)))) <|
   .c (px C rfl (λ_ _=>rfl)) <|
   .c (px C rfl (λ_ _=>rfl)) <|
   .c (px C rfl (λ_ _=>rfl)) <|
   .c (px C rfl (λ_ _=>rfl)) <|
   .c (px C rfl (λ_ h=>bH (lD (bc h c1)))) <|
   .c (pz [4,9] [] (by kernel_rfl) λo u wr F j d e=>?_) <|
   .c (pz [10] [] (by kernel_rfl) λo u wr F j d e=>?_) <|
   .c (pf [] [] (by kernel_rfl) λo u wr F j d e=>?_) <| .nil) ?_
 ·have G:=aA d.1 rfl rfl;have D:=aA d.2.1 rfl rfl;clear j d;go_simp;exact e _ _ zR rfl
 ·have u:=aA d.1 rfl rfl;clear j d;have o:=zE F r0;have H:=zE F r1;have z:=zE F r2;have A:=zE F r3;have B:=zE F r4;go_simp;exact e _ _ zR rfl
 ·clear j d;go_simp;exact e _ _ (zR.alloc zL _) ⟨_,rfl,F.size,Bk.new _ _ _⟩ ⟨_,rfl,by simp,by simp⟩
 intro qx wr F d e;have P:∃g,qx 12=.pointer (some ⟨g,0,none⟩)/\W.heap.size<=g/\Bk wr g 94 #[(),.string ⟨#[]⟩,(),(),()]:=d 12 rfl rfl;clear d e;simp only[bJ,zF0,zGb,zF1,zFp,zFd,zFh,zF4,Act.put,zFf,zFw,zFx];generalize qx 12=z5 at P⊢;obtain⟨g5,P,o,j⟩:=P;subst P;go_upto_region 2 with(first|(refine ae fB rfl _ _ rfl rfl [.int .i64 T.kind,.string (bytes T.text),.int .i64 T.n,.int .i64 T.scale,.int .i64 T.pos] rfl j rfl rfl rfl ?_;intro wA d;go_frame))
 have e:Zq b t rest L LA Lc w.heap.size g5 T w s wA:=⟨(q.old F).fE d (by omega),d.zJ (f.old F) (by omega),d.bk,fC (p.trans (below_grown F (some b))) d (by omega)⟩
 have sO:=zH e;have ad:w.heap.size<g5:=by omega
 have e0:wA.cell? ⟨g5,0,none⟩=some (.int .i64 T.kind):=e.k5.cell 0;have e4:wA.cell? ⟨g5,4,none⟩=some (.int .i64 T.pos):=e.k5.cell 4
 have a2:Hid (∀(x:PS) (W:World) (S:ByteArray) (v:Str),S.toList=v->iy L x->dH b t rest L LA Lc x W->Calls prog 37 #[.pointer (some ⟨b,0,none⟩),S] W λr w'=>r=.returned (.bool (fD L x v))/\Below W W w'):=zH λx W S v hv ho h=>by
  have:=mP b t rest L LA Lc x W S h ho.lt hL
  rwa [hv]at this
 have Zr:(⟨#[33]⟩:ByteArray).toList=[33]:=by rw[zFm]
 clear e d j F l o c0 c1 r0 r1 r2 r3 r4 q f p;obtain⟨q,d⟩:=zN (decide (n=8)&&(decide (T.kind=2)||fD L s [33]))
 go_cut[31] (λv wx=>v=.bool q/\Hid (Zq b t rest L LA Lc w.heap.size g5 T w s wx))
 case first=>
  as_aux_lemma=>
  by_cases e:n=8
  case neg=>
   have j:((n:Int)==8)=false:=zB (by omega)
   have p:q=false:=by rw[<-d];simp[e]
   subst p;clear d;go_wp2_with fail
   go_meet
   exact⟨rfl,sO⟩
  case pos=>
   have j:((n:Int)==8)=true:=by rw[zFt];omega
   by_cases f:T.kind=2
   case pos=>
    have l:((T.kind:Int)==2)=true:=by rw[zFt];omega
    have p:q=true:=by rw[<-d];simp[e,f]
    subst p;clear d e f;go_wp2_with fail
    go_meet
    exact⟨rfl,sO⟩
   case neg=>
    have l:((T.kind:Int)==2)=false:=zB (by omega)
    have p:fD L s [33]=q:=by rw[<-d];simp[e,f]
    have D:=zH p;clear d p e f;go_wp2_with fail
    refine(a2.out s _ _ _ Zr Y sO.st).mono ?_;rintro r w2 ⟨rfl,O⟩;have o:=zH (sO.old O);rw[D.out];go_wp2_with fail
    go_meet
    exact⟨rfl,o⟩
 case rest=>
  obtain⟨rfl,K⟩:=hcut;cases q
  case true=>
   as_aux_lemma=>
   have H:=yO (L:=L) (s:=s) (n:=n) (by rw[HT.out];exact d);have H:=aH.symm.trans H;subst H;have f:Hid (∀W:World,dH b t rest L LA Lc s W->Calls prog 40 #[.pointer (some ⟨b,0,none⟩),.int .i64 2] W λr w'=>r=.returned (.tuple #[])/\Steps b t rest L LA Lc (bf L 2 s) W w'):=zH λW h=>mr b t rest L LA Lc s W 2 h Y.lt hL
   clear d aH;go_wp2_with fail
   refine(f.out _ K.st).mono ?_;rintro r w2 ⟨rfl,J⟩;have e:=K.steps a1 (by omega) J;obtain⟨y0,y1,y2,y3⟩:=zc4 e.kr;have a3:=zH e.kr;have D:=zH e.st;have Zt:=zH e.gw;clear J f e K;go_wp2_with (first|(refine ae yP rfl _ _ rfl rfl [.int .i64 0,.string ⟨#[]⟩,.string ⟨#[]⟩,.int .i64 0] rfl a3.out rfl rfl rfl ?_;intro w9 p9))
   obtain⟨u0,u1,u2,u3⟩:=zc4 p9.bk;refine zFg (v:=.agg #[(),.string ⟨#[]⟩,.string ⟨#[]⟩,()]) (by simp[results,results57,go_sem,u0,u1,u2,u3]) rfl ?_;exact⟨rfl,D.fE p9 (by omega),fC Zt.out p9 (by omega)⟩
  case false=>
   as_aux_lemma=>
   have H:=Gy (L:=L) (s:=s) (n:=n) (by rw[HT.out];exact d);have H:=aH.symm.trans H;clear aH d;have e4:=K.k5.cell 4;obtain⟨o,e⟩:=zN (fD L s [33])
   rw[e,HT.out]at H;simp only[]at H;have G:=zH H;have MQ:=zH e;clear e H;have a5:Hid (∀(x:PS) (W:World),iy L x->dH b t rest L LA Lc x W->Calls prog 62 #[.pointer (some ⟨b,0,none⟩)] W λr w'=>r=.returned (.string (bytes (dK L x).1))/\Steps b t rest L LA Lc (dK L x).2 W w'):=zH λx W ho h=>EY b t rest L LA Lc x W h ho.lt hL
   have X:=K.kr.lt;have ab:=K.gw.size;go_upto_region 6 with fail
   have f:LU b t rest L LA Lc w.heap.size wc.heap.size [.int .i64 1,.string ⟨#[]⟩,.string ⟨#[]⟩,.int .i64 T.pos] w s (wc.alloc (.cells #[.int .i64 1,.string ⟨#[]⟩,.string ⟨#[]⟩,T.pos] 136)):=
    have e:Below wc wc (wc.alloc (.cells #[.int .i64 1,.string ⟨#[]⟩,.string ⟨#[]⟩,T.pos] 136)):=zR.alloc zL _
    ⟨K.st.old e,K.kr.old e,Bk.new wc _ _,K.gw.trans (below_grown e _)⟩
   have e:=zH f;have u:b<wc.heap.size:=by omega
   have XZ:w.heap.size<=wc.heap.size:=by omega
   clear f K e4;generalize wc.alloc (.cells #[.int .i64 1,.string ⟨#[]⟩,.string ⟨#[]⟩,T.pos] 136)=W1 at *;generalize wc.heap.size=g6 at *;have R:b<w.heap.size:=a1;go_upto_if 43 with(first|(refine(a2.out s _ _ _ Zr Y e.st).mono ?_;rintro r w2 ⟨rfl,O⟩;rw[MQ.out];have B:=zH (e.old O);clear e O))
   obtain⟨fo,f⟩:∃z:Nat,(if o=true then 3 else 1)=z:=⟨_,rfl⟩
   obtain⟨s1,e⟩:=zN (if o=true then aO s else s)
   have a6:iy L s1:=by
    rw[<-e];cases o
    ·exact Y
    exact(bF.next he Y (bM MQ.out)).ok
   have j:=G.out;rw[e]at j;have G:=zH j;clear j
   go_cut[] (λwx=>Hid (LU b t rest L LA Lc w.heap.size g6 [.int .i64 fo,.string ⟨#[]⟩,.string ⟨#[]⟩,.int .i64 T.pos] w s1 wx))
   case first=>
    as_aux_lemma=>
    cases o
    case false=>
     simp only[zHy,zKk]at f e;subst f;subst e;go_wp2_with fail
     go_meet
     exact B
    case true=>
     simp only[if_true]at f e;subst f;subst e;have Q:=B.out;have l:=Q.put u XZ X 0 (.int .i64 3);have d1:=l.st.c1;have f1:=l.st.fr 1;have f6:=Q.k6.frozen 0;have c6:=Q.k6.cell 0;have A:=zH (l.next R u);have a9:s.i<=4001:=by have:=Y.lt;omega
     clear Q l B;go_wp2_with fail
     go_meet
     exact A
   case rest=>
   have Z:=hcut;clear hcut B e;have U:=a5.out s1 wc a6 Z.st;have B:iy L (dK L s1).2:=(bF.Pg he a6).ok;obtain⟨ty,I,M⟩:∃a z,dK L s1=(a,z):=⟨_,_,rfl⟩
   have j:=G.out;clear G;rw[M]at U B j;simp only at U B j;have AB:=zH U;have e:=zH j;clear U M j;go_wp2_with fail
   refine AB.mono ?_;rintro r w2 ⟨rfl,J⟩;have M:=Z.steps R u J;have A:=zH (M.put u XZ X 1 (.string (bytes ty)));have f6:=M.k6.frozen 1;have c6:=M.k6.cell 1;clear Z AB J M;go_upto_region 10 with fail
   clear f6 c6;generalize w2.setCell ⟨g6,1,none⟩ (.string (bytes ty))=W3 at *;have j:=e.out;clear e;obtain⟨e,M⟩:=zN (decide (I.err=0)&&(!o&&fD L I [43]))
   rw[M]at j;have a8:(⟨#[43]⟩:ByteArray).toList=[43]:=by rw[zFm]
   have EZ:=zH M;have G:=zH j;clear M j
   go_cut[73] (λv wx=>v=.bool e/\Hid (LU b t rest L LA Lc w.heap.size g6 [.int .i64 fo,.string (bytes ty),.string ⟨#[]⟩,.int .i64 T.pos] w I wx))
   case first=>
    as_aux_lemma=>
    have d3:=A.st.c3
    by_cases N:I.err=0
    case neg=>
     have jA:((I.err:Int)==0)=false:=zB (by omega)
     have M:e=false:=by rw[<-EZ.out];simp[N]
     subst M;clear N;go_wp2_with fail
     go_meet
     exact⟨rfl,A⟩
    case pos=>
     have jA:((I.err:Int)==0)=true:=by rw[zFt];omega
     have aa:=A.k6.cell 0;cases o
     case true=>
      simp only[if_true]at f;subst f;have M:e=false:=by rw[<-EZ.out];simp
      subst M;clear N;go_wp2_with fail
      go_meet
      exact⟨rfl,A⟩
     case false=>
      simp only[zHy,zKk]at f;subst f;have p:fD L I [43]=e:=by rw[<-EZ.out];simp[N]
      have D:=zH p;clear p N;go_wp2_with fail
      refine(a2.out I _ _ _ a8 B A.st).mono ?_;rintro r w4 ⟨rfl,M⟩;have a7:=zH (A.old M);rw[D.out];clear A d3 aa M;go_wp2_with fail
      go_meet
      exact⟨rfl,a7⟩
   case rest=>
   obtain⟨rfl,Z⟩:=hcut;clear A;go_upto_if 73 with fail
   obtain⟨N,Uk⟩:∃z:Nat,(if o=true then 3 else if e=true then 2 else 1)=z:=⟨_,rfl⟩
   obtain⟨s3,p⟩:=zN (if e=true then aO I else I)
   have j:=G.out;clear G;rw[Uk,p]at j;have G:=zH j;clear j
   have M:e=true->o=false/\fD L I [43]=true:=by
    intro h;have:=EZ.out;rw[h]at this;cases o<;>simp at this
    exact⟨rfl,this.2⟩
   have a7:iy L s3:=by
    rw[<-p];cases e
    ·exact B
    exact(bF.next he B (bM (M rfl).2)).ok
   go_cut[] (λwx=>Hid (LU b t rest L LA Lc w.heap.size g6 [.int .i64 N,.string (bytes ty),.string ⟨#[]⟩,.int .i64 T.pos] w s3 wx))
   case first=>
    as_aux_lemma=>
    cases e
    case false=>
     simp only[zHy,zKk]at Uk p;obtain rfl:fo=N:=f.symm.trans Uk;subst p;go_wp2_with fail
     go_meet
     exact Z
    case true=>
     have hn:=(M rfl).1;subst hn;simp only[zHy,zKk,if_true]at Uk p f;subst Uk;subst p;subst f;have Q:=Z.out;have l:=Q.put u XZ X 0 (.int .i64 2);have d1:=l.st.c1;have f1:=l.st.fr 1;have f6:=Q.k6.frozen 0;have c6:=Q.k6.cell 0;have A:=zH (l.next R u);have a9:I.i<=4001:=by have:=B.lt;omega
     clear Q l Z M;go_wp2_with fail
     go_meet
     exact A
   case rest=>
   have A:=hcut;clear hcut Z p M B;have U:=a5.out s3 wc a7 A.st;obtain⟨B,Q,l⟩:∃a z,dK L s3=(a,z):=⟨_,_,rfl⟩
   have j:=G.out;clear G;rw[l]at U j;simp only at U j;have G:=zH j;clear j;have AB:=zH U;clear U l;go_wp2_with fail
   refine AB.mono ?_;rintro r w4 ⟨rfl,z⟩;have M:=A.steps R u z;have l:=M.put u XZ X 2 (.string (bytes B));have f6:=M.k6.frozen 2;have c6:=M.k6.cell 2;have p:=zH l;clear l A AB z M;go_upto_region 14 with fail
   clear f6 c6;generalize w4.setCell ⟨g6,2,none⟩ (.string (bytes B))=z at *;have l:=p.out;obtain⟨y0,y1,y2,y3⟩:=zc4 l.k6;have a3:=zH l.kr;have D:=zH l.st;have Zt:=zH l.gw;clear l p;go_wp2_with (first|(refine ae yP rfl _ _ rfl rfl [.int .i64 N,.string (bytes ty),.string (bytes B),.int .i64 T.pos] rfl a3.out rfl rfl rfl ?_;intro w9 p9))
   obtain⟨u0,u1,u2,u3⟩:=zc4 p9.bk;refine zFg (v:=.agg #[N,.string (bytes ty),.string (bytes B),T.pos]) (by simp[results,results57,go_sem,u0,u1,u2,u3]) rfl ?_;have H:=G.out;subst H;exact⟨rfl,D.fE p9 (by omega),fC Zt.out p9 (by omega)⟩
end
def qI (B:Nat) (w:World):List Value->List (List bn)->Prop
 |[],[]=>True
 |v::vs,l::ls=>w.ownsRow B 136 4 v l.length (l.flatMap bn.cells)/\qI B w vs ls
 |_,_=>False
theorem qI.app {B:Nat} {w:World}:∀{c a:List Value} {b ks:List (List bn)},qI B w c b->qI B w a ks->qI B w (c++a) (b++ks)
 |[],a,[],ks,_,h=>h
 |v::c,a,l::b,ks,h,d=>⟨h.1,qI.app h.2 d⟩
 |[],a,l::b,ks,h,d=>h.elim
 |v::c,a,[],ks,h,d=>h.elim
theorem qI.keep {B:Nat} {w w':World} (c:∀v n xs,w.ownsRow B 136 4 v n xs->w'.ownsRow B 136 4 v n xs):∀{b:List Value} {a:List (List bn)},qI B w b a->qI B w' b a
 |[],[],_=>trivial
 |v::b,l::a,h=>⟨c _ _ _ h.1,qI.keep c h.2⟩
 |[],l::a,h=>h.elim
 |v::b,[],h=>h.elim
def lK (B:Nat) (w:World) (v:Value) (dJ:List (List bn)):Prop:=∃vs:List Value,w.ownsRow B 104 1 v dJ.length vs/\qI B w vs dJ
theorem lK.old {B:Nat} {w w':World} {v:Value} {a:List (List bn)} (h:lK B w v a) (hb:Below w w w'):lK B w' v a:=by
 obtain⟨d,b,c⟩:=h;exact⟨d,aT b hb,c.keep λ_ _ _ h=>aT h hb⟩
theorem ik {b B:Nat} {w w':World} {e:TypeId} {a n:Nat} {v:Value} {xs:List Value} (h:w.ownsRow B e a v n xs) (c:w.grownBy w' (some b)) (hb:b<B):w'.ownsRow B e a v n xs:=by
 refine h.kept c ?_;rcases hv:v.ownBlock with _|k
 ·exact .inl rfl
 have:=(h.lt k hv).1;exact .inr (aG (by omega))
theorem lK.grown {b B:Nat} {w w':World} {v:Value} {a:List (List bn)} (h:lK B w v a) (c:w.grownBy w' (some b)) (hb:b<B):lK B w' v a:=by
 obtain⟨f,d,e⟩:=h;exact⟨f,ik d c hb,e.keep λ_ _ _ h=>ik h c hb⟩
theorem Jk {b:Nat} {w f w':World} {e:TypeId} {c n:Nat} {v:Value} {xs:List Value} (a:w.grownBy f (some b)) (h:f.ownsRow w.heap.size e c v n xs) (d:f.grownBy w' v.ownBlock):w.grownBy w' (some b):=
 ⟨d.os.trans a.os,d.tape.trans a.tape,d.output.trans a.output,zFi a.size d.size,λk i g=>(d.block k (zFs i a.size) (by
  intro j;have:=(h.lt k j.symm).1
  omega)).trans (a.block k i g)⟩
theorem sW {w W:World} {b:Nat} (h:w.grownBy W (some b)) (hb:b<=w.heap.size):Below b w W:=⟨h.os,h.tape,h.output,h.size,λq a=>h.block q (by omega) (aG (by omega))⟩
theorem jP {w W W':World} {b B n:Nat} {e:TypeId} {a:Nat} {v:Value} {xs:List Value} (h:Below b w W) (d:W.ownsRow B e a v n xs) (g:b<=B) (c:W.grownBy W' v.ownBlock) (hb:b<=w.heap.size):Below b w W':=
 h.trans ⟨c.os,c.tape,c.output,c.size,λq f=>c.block q (by have:=h.size;omega) (by
  intro f;have:=(d.lt q f.symm).1
  omega)⟩
theorem dH.set5 {b:Nat} {t:TypeId} {u:Value} {a:List Value} {L:List aC} {d:Option Addr} {c:Nat} {s:PS} {w:World} (h:dH b t (u::a) L d c s w) (v:Value):dH b t (v::a) L d c s (w.setCell ⟨b,5,none⟩ v):=
 ⟨by simpa[dF]using h.bk.put 5 v,o6 h.rd _ _⟩
theorem dH.c5 {b:Nat} {t:TypeId} {u:Value} {a:List Value} {L:List aC} {d:Option Addr} {c:Nat} {s:PS} {w:World} (h:dH b t (u::a) L d c s w):w.cell? ⟨b,5,none⟩=some u:=by rw[h.bk.cell 5];simp[dF]
theorem qJ (L:List aC) (a:Nat) (s:PS):dY L a s=
  ((oW L (L.length+1) [] (aQ L [40] (aQ L oU (if s.err=0/\fD L s oU=true/\a=4 then bf L 2 s else s)))).1,
   aQ L [41] (oW L (L.length+1) [] (aQ L [40] (aQ L oU (if s.err=0/\fD L s oU=true/\a=4 then bf L 2 s else s)))).2):=rfl
theorem uz (L:List aC) (k:Nat) (l:List bn) (s:PS):oW L (k+1) l s=if s.err≠0 then(l,s)else if(jY L l.length s).2.err≠0\/fD L (jY L l.length s).2 [44]=false then(l++[(jY L l.length s).1],(jY L l.length s).2)else oW L k (l++[(jY L l.length s).1]) (aO (jY L l.length s).2):=rfl
theorem kW {L:List aC} {e:Nat} {s:PS} (a:e≠0):(bf L e s).err≠0:=by
 unfold bf
 split
 ·exact a
 assumption
theorem bF.item {L:List aC} {s:PS} (b:dS L) (h:iy L s) (n:Nat):bF L s (jY L n s).2:=by
 by_cases e:(decide (n=8)&&(decide ((bC L s).kind=2)||fD L s [33]))=true
 ·rw[yO e];exact bF.fail _ h
 rw[Gy (zH6.2 e)];simp only[]
 have f:bF L s (if fD L s [33]=true then aO s else s):=by
  split
  ·rename_i a
   exact bF.next b h (bM a)
  exact bF.refl h
 generalize(if fD L s [33]=true then aO s else s)=i at *;have d:=f.trans (bF.Pg b f.ok);generalize dK L i=r at *;obtain⟨j,c⟩:=r;simp only at *
 have g:bF L s (if(decide (c.err=0)&&(!fD L s [33]&&fD L c [43]))=true then aO c else c):=by
  split
  ·rename_i a
   simp at a;exact d.trans (bF.next b d.ok (bM a.2.2))
  exact d
 exact g.trans (bF.Pg b g.ok)
theorem E5 (L:List aC) (s:PS):(jY L 8 s).2.err≠0:=by
 by_cases a:(decide ((8:Nat)=8)&&(decide ((bC L s).kind=2)||fD L s [33]))=true
 ·rw[yO a];exact kW (by decide)
 have a:=zH6.2 a;rw[Gy a];simp at a;simp only[a.2,zHy,zKk]
 have b:(dK L s).2.err≠0:=by
  unfold dK;rw[zF3 (.inr a.1)];exact kW (by decide)
 simp only[b,decide_false,zJh,zHy,zKk]
 have:dK L (dK L s).2=([],bf L 13 (dK L s).2):=by
  generalize(dK L s).2=c at *;unfold dK;rw[zF3 (.inl b)]
 rw[this];exact kW (by decide)
theorem Cj {L:List aC} (a:dS L):∀(k:Nat) (l:List bn) (s:PS),iy L s->bF L s (oW L k l s).2
 |0,l,s,h=>bF.refl h
 |k+1,l,s,h=>by
  rw[uz]
  split
  ·exact bF.refl h
  split
  ·exact bF.item a h _
  rename_i c
  have g:=bF.item a h l.length;simp only[not_or,zK9]at c;have b:=g.trans (bF.next a g.ok (bM c.2));exact b.trans (Cj a k _ _ b.ok)
theorem bF.branch {L:List aC} {s:PS} (a:dS L) (h:iy L s) (c:Nat):bF L s (dY L c s).2:=by
 rw[qJ]
 have e:bF L s (if s.err=0/\fD L s oU=true/\c=4 then bf L 2 s else s):=by
  split
  ·exact bF.fail _ h
  exact bF.refl h
 have d:=e.trans (bF.need a oU e.ok);have f:=d.trans (bF.need a [40] d.ok);have b:=f.trans (Cj a (L.length+1) [] _ f.ok);exact b.trans (bF.need a [41] b.ok)
theorem Jl (a d c b:Value) (w:World):(Instr.buildSlice 104 1 #[(0,.agg #[a,d,c,b])]).run prog w=.ok (.slice (some ⟨w.heap.size,0,none⟩) 1 1) (w.alloc (.cells #[a,d,c,b] 136)):=by kernel_rfl
theorem Cm {w:World} {ops:Array Oper} {b:List Oper} {o:Oper} {a:Act} {Q:Exit->Act->World->Prop} {f g d e:Value} (c:o.guard=none) (x:Operand) (k:o.op=.buildSlice 104 1 #[(0,x)]) (j:a.eval x=.agg #[f,g,d,e])
  (h:wpList prog ops Q b (a.put o.dst (.slice (some ⟨w.heap.size,0,none⟩) 1 1)) (w.alloc (.cells #[f,g,d,e] 136))):wpList prog ops Q (o::b) a w:=
 zH8 c λ_ i=>by
  unfold Oper.wp execOp;simp only[k,zHp,zGq,zHc,j,zH5,Jl,Result.andThen_ok,Sem.run_pure];exact i _ _ h
theorem zA3:(prog.info? 104).map (λi=>(i.zero,i.size,i.bytes))=some (some (.slice none 0 0),1,24):=by kernel_rfl
theorem zEf (a d:Nat) (b c:Str):[(⟨a,b,c,d⟩:bn)].flatMap bn.cells=[.int .i64 a,.string (bytes b),.string (bytes c),.int .i64 (d:Nat)]:=rfl
structure BrI (b:Nat) (t:TypeId) (rest:List Value) (L:List aC) (LA:Option Addr) (Lc:Nat) (w:World) (x:PS) (v:Value) (l:List bn) (W:World):Prop where
 st:dH b t rest L LA Lc x W
 gw:w.grownBy W (some b)
 own:W.ownsRow w.heap.size 136 4 v l.length (l.flatMap bn.cells)
def Ph (b B:Nat) (L:List aC) (LA:Option Addr) (Lc:Nat) (rr:List Value) (dJ:List (List bn)) (s:PS) (w:World) (e:Ending) (w':World):Prop:=
 e=.returned (.tuple #[])/\Below b w w'/\∃v,dH b 90 (v::rr) L LA Lc (dY L dJ.length s).2 w'/\lK B w' v (dJ++[(dY L dJ.length s).1])
section
variable (b B:Nat) (L:List aC) (LA:Option Addr) (Lc:Nat) (s:PS) (w:World) (v0:Value) (rr:List Value) (dJ:List (List bn))
theorem MR (h:dH b 90 (v0::rr) L LA Lc s w) (a3:lK B w v0 dJ) (O:dS L) (hi:iy L s) (hL:L.length<=4001) (hn:dJ.length<=4) (a4:b<B) (am:B<=w.heap.size):
  Calls prog 36 #[.pointer (some ⟨b,0,none⟩)] w (Ph b B L LA Lc rr dJ s w):=by
 obtain⟨y,t,a,-⟩:∃A c,v0=.slice A dJ.length c/\dJ.length<=c:=by
  obtain⟨vs,d,_⟩:=a3;exact aK d
 subst a;obtain⟨iT,hT,af,ap,ad⟩:=zG4 Uh;obtain⟨jT,kT,ao,aq,ak⟩:=zG4 zA3
 have a2:Hid (∀(x:PS) (W:World) (S:ByteArray) (v:Str) (d:List Value),S.toList=v->iy L x->dH b 90 d L LA Lc x W->Calls prog 37 #[.pointer (some ⟨b,0,none⟩),S] W λr w'=>r=.returned (.bool (fD L x v))/\Below W W w'):=zH λx W S v d hv ho h=>by
  have:=mP b _ d L LA Lc x W S h ho.lt hL
  rwa [hv]at this
 have mJ:Hid (∀(x:PS) (W:World) (S:ByteArray) (v:Str) (d:List Value),S.toList=v->iy L x->dH b 90 d L LA Lc x W->Calls prog 35 #[.pointer (some ⟨b,0,none⟩),S] W λr w'=>r=.returned (.tuple #[])/\Steps b 90 d L LA Lc (aQ L v x) W w'):=zH λx W S v d hv ho h=>by
  have:=nS b _ d L LA Lc x W S h ho.lt hL
  rwa [hv]at this
 have E:Hid (∀W:World,dH b 90 (.slice y dJ.length t::rr) L LA Lc s W->Calls prog 40 #[.pointer (some ⟨b,0,none⟩),.int .i64 2] W λr w'=>r=.returned (.tuple #[])/\Steps b 90 (.slice y dJ.length t::rr) L LA Lc (bf L 2 s) W w'):=zH λW h=>mr b _ _ L LA Lc s W 2 h hi.lt hL
 have a5:Hid (∀(x:PS) (W:World) (n:Nat) (d:List Value),n<=8->iy L x->dH b 90 d L LA Lc x W->Calls prog 57 #[.pointer (some ⟨b,0,none⟩),n] W λr w'=>r=.returned (.agg (jY L n x).1.cells.toArray)/\Steps b 90 d L LA Lc (jY L n x).2 W w'):=zH λx W n d hn ho h=>Ui b _ d L LA Lc x W n h O ho hL hn
 have M:(⟨#[83,69,81]⟩:ByteArray).toList=oU:=by rw[zFm];rfl
 have a7:(⟨#[40]⟩:ByteArray).toList=[40]:=by rw[zFm]
 have a6:(⟨#[44]⟩:ByteArray).toList=[44]:=by rw[zFm]
 have a9:(⟨#[41]⟩:ByteArray).toList=[41]:=by rw[zFm]
 unfold Ph;obtain⟨ax,e⟩:=zN (dY L dJ.length s)
 rw[e];rw[qJ]at e;have aH:=zH e;have m:=zH h;have Ee:=zH a3;have a1:=h.bk.lt;have c3:=h.c3;have c5:=h.c5;clear e h a3
 go_enter func36,ntmps36
 obtain⟨o,g⟩:=zN (decide (s.err=0)&&(fD L s oU&&decide (dJ.length=4)))
 have a:=zH g;clear g;go_upto_region 0 with fail
 go_cut[23] (λv wx=>v=.bool o/\Hid (dH b 90 (.slice y dJ.length t::rr) L LA Lc s wx/\Below w w wx))
 case first=>
  as_aux_lemma=>
  by_cases q:s.err=0
  case neg=>
   have jA:((s.err:Int)==0)=false:=zB (by omega)
   have f:o=false:=by rw[<-a.out];simp[q]
   subst f;clear q;go_wp2_with fail
   go_meet
   exact⟨rfl,zH ⟨m.out,zGp _ _⟩⟩
  case pos=>
   have jA:((s.err:Int)==0)=true:=by rw[zFt];omega
   obtain⟨bi,D⟩:=zN (fD L s oU)
   have Pj:=zH D;clear D
   by_cases z:dJ.length=4
   ·have p:((dJ.length:Int)==4)=true:=by rw[zFt];omega
    have f:o=bi:=by rw[<-a.out,Pj.out];simp[q,z]
    subst f;have C:=zH p;have F:=zH c5;clear q z p c5;go_wp2_with fail
    refine(a2.out s _ _ _ _ M hi m.out).mono ?_;rintro r w2 ⟨rfl,j⟩;rw[Pj.out];have d5:=(m.old j).c5;have N:=zH (zA (m.old j) j);have p:=C.out;clear j;cases o
    ·go_wp2_with fail
     go_meet
     exact⟨rfl,N⟩
    go_wp2_with fail
    go_meet
    exact⟨rfl,N⟩
   have p:((dJ.length:Int)==4)=false:=zB (by omega)
   have f:o=false:=by rw[<-a.out,Pj.out];simp[q,z]
   subst f;have C:=zH p;have F:=zH c5;clear q z p c5;go_wp2_with fail
   refine(a2.out s _ _ _ _ M hi m.out).mono ?_;rintro r w2 ⟨rfl,j⟩;rw[Pj.out];have d5:=(m.old j).c5;have N:=zH (zA (m.old j) j);have p:=C.out;clear j;cases bi
   ·go_wp2_with fail
    go_meet
    exact⟨rfl,N⟩
   go_wp2_with fail
   go_meet
   exact⟨rfl,N⟩
 case rest=>
 obtain⟨rfl,N⟩:=hcut;clear m c3 c5
 have Y:bF L s (if s.err=0/\fD L s oU=true/\dJ.length=4 then bf L 2 s else s):=by
  split
  ·exact bF.fail _ hi
  exact bF.refl hi
 have m:=Y.trans (bF.need O oU Y.ok);have p:=m.trans (bF.need O [40] m.ok);obtain⟨s1,f⟩:=zN (if s.err=0/\fD L s oU=true/\dJ.length=4 then bf L 2 s else s)
 have e:=aH.out;clear aH;rw[f]at e Y m p;have q:=zH f;have aH:=zH e;have av:=Y.ok;have aw:=m.ok;have a8:=p.ok;clear e f Y m p;go_upto_if 23 with fail
 go_cut[] (λwx=>Hid (Steps b 90 (.slice y dJ.length t::rr) L LA Lc s1 w wx))
 case first=>
  as_aux_lemma=>
  cases o
  case false=>
   have f:s1=s:=by
    rw[<-q.out,zF2];intro h;have:=a.out;simp[h.1,h.2.1,h.2.2]at this
   subst f;go_wp2_with fail
   go_meet
   exact zH ⟨N.1,below_grown N.2 _⟩
  case true=>
   have f:bf L 2 s=s1:=by
    rw[<-q.out,zF3];have:=a.out
    simpa using this
   have m:=zH f;clear f;go_wp2_with fail
   refine(E.out _ N.1).mono ?_;rintro r w3 ⟨rfl,C⟩
   have Jm:Hid (Steps b 90 (.slice y dJ.length t::rr) L LA Lc s1 w w3):=zH (by
    rw[<-m.out]
    exact⟨C.st,(below_grown N.2 _).trans C.grown⟩)
   clear C;go_wp2_with fail
   go_meet
   exact Jm
 case rest=>
 have f:=hcut;clear hcut N E q a;go_wp2_with fail
 refine(mJ.out s1 _ _ _ _ M av f.st).mono ?_;rintro r w2 ⟨rfl,a⟩;have m:=zH (zA a.st (f.grown.trans a.grown));clear a f;go_wp2_with fail
 refine(mJ.out (aQ L oU s1) _ _ _ _ a7 aw m.1).mono ?_;rintro r w3 ⟨rfl,C⟩;have Jm:=zH (zA C.st (m.2.trans C.grown));clear C m;generalize aQ L [40] (aQ L oU s1)=s3 at *;have V0:Hid (BrI b 90 (.slice y dJ.length t::rr) L LA Lc w s3 (.slice none 0 0) [] w3):=zH ⟨Jm.1,Jm.2,zGs _ _ _ _⟩;clear Jm;obtain⟨RI,a⟩:=zN (oW L (L.length+1) [] s3)
 have e:=aH.out;clear aH;rw[a]at e;have Z:=zH a;have aH:=zH e;clear a e
 go_upto_block 0 with fail
 go_cut[2] (λv wx=>∃A c,v=.slice A RI.1.length c/\Hid (BrI b 90 (.slice y dJ.length t::rr) L LA Lc w RI.2 v RI.1 wx))
 case first=>
  as_aux_lemma=>
  have MV:Hid (∀x,iy L x->x.i<=4001):=zH λx h=>by have:=h.lt;omega
  clear aH;go_wp2_with fail
  go_loopg [2] (L.length+1) (λgk l wr=>∃(A:Option Addr) (c:Nat) (a:List bn) (x:PS),l=.slice A a.length c/\a.length<=8/\Hid (oW L gk a x=RI)/\L.length-x.i<gk/\Hid (iy L x)/\Hid (BrI b 90 (.slice y dJ.length t::rr) L LA Lc w x (.slice A a.length c) a wr))
  case atStart=>exact⟨none,0,[],s3,rfl,by simp,Z,by omega,zH a8,V0⟩
  case round=>
   clear V0 Z;obtain⟨A,c,a,x,rfl,aa,f,b0,vV,H⟩:=hrel;obtain⟨wo,rfl⟩:∃wo:World,wo=wr:=⟨_,rfl⟩
   obtain⟨k,rfl⟩:∃k,gk=k+1:=⟨gk-1,by omega⟩
   have f:=f.out;rw[uz]at f;have d3:=H.st.c3
   by_cases I:x.err=0
   case neg=>
    as_aux_lemma=>
    rw[zF3 I]at f;subst f;have jA:((x.err:Int)==0)=false:=zB (by omega)
    clear I;go_wp2_with fail
    go_meet
    exact⟨_,_,rfl,H⟩
   case pos=>
    rw[zF2 (by omega)]at f;have jA:((x.err:Int)==0)=true:=by rw[zFt];omega
    have z:=zH (a5.out x wo a.length _ aa vV.out H.st);have Y:=bF.item O vV.out a.length;have g:a.length=8->(jY L a.length x).2.err≠0:=λh=>by rw[h];exact E5 L x
    obtain⟨⟨⟨U,Q,R,P⟩,q⟩,m⟩:∃r,jY L a.length x=r:=⟨_,rfl⟩
    rw[m]at z Y g f;simp only[bn.cells]at z Y g f;have lI:=zH f;have QK:=zH Y;have Ul:=zH g;clear f Y g m I;go_wp2_with fail
    refine z.mono ?_;rintro r w4 ⟨rfl,m⟩;have p:BrI b 90 (.slice y dJ.length t::rr) L LA Lc w q (.slice A a.length c) a w4:=⟨m.st,H.gw.trans m.grown,ik H.own m.grown a1⟩
    have ar:=p.gw.size;have uT:w.heap.size<=(w4.alloc (.cells #[U,.string (bytes Q),.string (bytes R),P] 136)).heap.size:=by simp;omega
    have J:=zH p;have E:=p.own.alloc (.cells #[U,.string (bytes Q),.string (bytes R),P] 136);clear m H p z d3;go_wp2_with (first|(refine Cm rfl _ rfl rfl ?_)|at_builtin;(refine aU (by rfl) _ _ 104 (by rfl) w.heap.size 136 iT _ 4 48 underlying104 hT af ap ad rfl (by decide) (.slice A a.length c) a.length _ (by rfl) E (w4.heap.size+1) (some ⟨w4.heap.size,0,none⟩) 1 1 [.int .i64 U,.string (bytes Q),.string (bytes R),.int .i64 P] (by rfl) (Rd.lit rfl _ _) (by rfl) ?c2 ?c3 ?c4 uT ?_))
    case c2=>intro u hu;simp at hu;rcases hu with rfl|rfl|rfl|rfl<;>rfl
    case c3=>unfold maxLen;omega
    case c4=>omega
    intro F G X m K _;have z:w.grownBy (w4.alloc (.cells #[U,.string (bytes Q),.string (bytes R),P] 136)) (some b):=ML J.gw _;have p:=Jk z E K
    have xI:dH b 90 (.slice y dJ.length t::rr) L LA Lc q X:=by
     have h5:=J.st.old (zR.alloc zL (.cells #[U,.string (bytes Q),.string (bytes R),P] 136))
     have a0:some b≠(Value.slice A a.length c).ownBlock:=by
      intro O;have:=(E.lt b O.symm).1;omega
     exact⟨h5.bk.grown K a0,h5.rd.below (jP zR E (by omega) K (by omega))⟩
    have Ec:(a++[(⟨U,Q,R,P⟩:bn)]).length=a.length+1:=by simp
    have V6:BrI b 90 (.slice y dJ.length t::rr) L LA Lc w q (.slice F (a.length+1) G) (a++[(⟨U,Q,R,P⟩:bn)]) X:=⟨xI,p,by rw[Ec,zGz,zEf];exact m⟩
    have iW:=zH V6;have d3:=xI.c3;clear m K z p xI E uT J V6
    by_cases J:q.err=0
    case neg=>
     as_aux_lemma=>
     have an:((q.err:Int) !=0)=true:=by rw[zG1];omega
     have z:=lI.out;rw[zF3 (.inl J)]at z;subst z;clear J Ul lI;go_wp2_with fail
     go_meet
     exact⟨F,G,by rw[Ec],iW⟩
    case pos=>
     have an:((q.err:Int) !=0)=false:=by rw[zG0];omega
     have al:a.length+1<=8:=by
      rcases zHu a.length 8 with h|h
      ·exact h
      exact absurd J (Ul.out (by omega))
     have QL:=zH QK.ok;have b3:=QK.le;have z:=lI.out;obtain⟨bi,D⟩:=zN (fD L q [44])
     rw[D]at z;have Pj:=zH D;have xH:=zH z;have ag:=zH J;clear lI z D QK Ul J;go_wp2_with fail
     refine(a2.out q _ _ _ _ a6 QL.out iW.st).mono ?_;rintro r w7 ⟨rfl,p⟩;have V7:BrI b 90 (.slice y dJ.length t::rr) L LA Lc w q (.slice F (a.length+1) G) (a++[(⟨U,Q,R,P⟩:bn)]) w7:=⟨iW.st.old p,iW.gw.trans (below_grown p _),aT iW.own p⟩
     have Pm:=zH V7;rw[Pj.out];cases bi
     case false=>
      as_aux_lemma=>
      have z:=xH.out;rw[zF3 (.inr rfl)]at z;subst z;clear p V7 iW d3 xH;go_wp2_with fail
      go_meet
      exact⟨F,G,by rw[Ec],Pm⟩
     case true=>
      as_aux_lemma=>
      have z:=xH.out;rw[zF2 (by simp[ag.out])]at z;have HR:=zH z;have gn:=bF.next O QL.out (bM Pj.out);have QM:=zH gn.ok;have b1:=MV.out q QL.out;have e1:=V7.st.c1;have f1:=V7.st.fr 1;have hn:=step_next b _ _ L LA Lc q w7 V7.st;have V8:BrI b 90 (.slice y dJ.length t::rr) L LA Lc w (aO q) (.slice F (a.length+1) G) (a++[(⟨U,Q,R,P⟩:bn)]) (w7.setCell ⟨b,1,none⟩ (.int .i64 ((q.i:Int)+1))):=⟨hn.st,V7.gw.trans hn.grown,ik V7.own hn.grown a1⟩
      have vI:=zH V8;have ab:(aO q).i=q.i+1:=rfl;have b2:=vV.lt;clear p V7 V8 iW Pm d3 xH hn gn z;go_wp2
      go_roundg k
      case measure=>omega
      case rel=>exact⟨F,G,a++[(⟨U,Q,R,P⟩:bn)],aO q,by rw[Ec],by rw[Ec];exact al,HR,by rw[ab];omega,QM,by rw[Ec];exact vI⟩
 case rest=>
 obtain⟨A,c,rfl,H⟩:=hcut;have a:bF L s3 RI.2:=by rw[<-Z.out];exact Cj O _ _ _ a8
 have R:=a.ok;clear V0 Z a;obtain⟨l,s4⟩:=RI;simp only at H R aH;go_wp2_with fail
 refine(mJ.out s4 _ _ _ _ a9 R H.st).mono ?_;rintro r D ⟨rfl,f⟩;have a:=zH (zA f.st (zA (H.gw.trans f.grown) (ik H.own f.grown a1)));have I:=Ee.grown a.2.1 a4;obtain⟨vs,J,q⟩:=I;have I:=zH q;clear f H q;have c5:=a.1.c5;have ar:=a.2.1.size;have uT:B<=(D.alloc (.cells #[.slice A l.length c] 104)).heap.size:=by simp;omega
 have E:=J.alloc (.cells #[.slice A l.length c] 104);have Z:=zH J;clear J;go_wp2_with (first|at_builtin;(refine aU (by rfl) _ _ 49 (by rfl) B 104 jT _ 1 24 underlying49 kT ao aq ak rfl (by decide) (.slice y dJ.length t) dJ.length _ (by rfl) E (D.heap.size+1) (some ⟨D.heap.size,0,none⟩) 1 1 [.slice A l.length c] (by rfl) (Rd.lit rfl _ _) (by rfl) ?c2 ?c3 ?c4 uT ?_))
 case c2=>intro u hu;simp at hu;subst hu;rfl
 case c3=>unfold maxLen;omega
 case c4=>omega
 intro F G X m K _;have U:Below D D (D.alloc (.cells #[.slice A l.length c] 104)):=zR.alloc zL _
 have a0:some b≠(Value.slice y dJ.length t).ownBlock:=by
  intro O;have:=(E.lt b O.symm).1;omega
 have Q:Below b w D:=sW a.2.1 (by omega);have j:Below b w (D.alloc (.cells #[.slice A l.length c] 104)):=Q.trans (U.mono (by omega));have P:Below b w X:=jP j E (by omega) K (by omega)
 have xI:dH b 90 (.slice y dJ.length t::rr) L LA Lc (aQ L [41] s4) X:=by
  have h5:=a.1.old U;exact⟨h5.bk.grown K a0,h5.rd.below (jP zR E (by omega) K (by have:=h5.bk.lt;omega))⟩
 have f:qI B X (vs++[.slice A l.length c]) (dJ++[l]):=by
  refine qI.app (I.keep λv n xs h=>?_) ⟨?_,trivial⟩
  ·exact bU (aT h U) E (by decide) K
  exact bU (bV (aT a.2.2 U) am) E (by decide) K
 have d5:=xI.c5;have f5:=xI.fr 5;have J:=xI.set5 (.slice F (dJ.length+1) G);have Zp:X.grownBy (X.setCell ⟨b,5,none⟩ (.slice F (dJ.length+1) G)) (some b):=cO (zF8 _ _);have p:Below b w (X.setCell ⟨b,5,none⟩ (.slice F (dJ.length+1) G)):=P.setCell (zFv b) _;have q:lK B (X.setCell ⟨b,5,none⟩ (.slice F (dJ.length+1) G)) (.slice F (dJ.length+1) G) (dJ++[l]):=lK.grown ⟨vs++[.slice A l.length c],by simpa using m,f⟩ Zp a4;have H7:=zH (zA J (zA p q));clear f J Zp p q xI P j Q m K E uT U c5 I Z a a0;go_wp2
 first|go_end0|refine zHg (v:=.tuple #[]) (by simp[results,results36,go_sem]) rfl ?_
 have z:=aH.out;subst z;exact⟨rfl,H7.2.1,_,H7.1,H7.2.2⟩
end
end Go.Proofs.YtbjnhllkdilpfaaGreat
