/- Part 35 of the proof. No conditions. -/
import Derived.Test.YtbjnhllkdilpfaaGreatZf32
import Derived.Test.YtbjnhllkdilpfaaGreatZf31
import Derived.Test.YtbjnhllkdilpfaaGreatZf34
set_option linter.unusedVariables false
set_option linter.unusedSimpArgs false
set_option maxRecDepth 100000
set_option maxHeartbeats 16000000
namespace Go.Proofs.YtbjnhllkdilpfaaGreat
open Go.RowKit _root_.Go.Proofs.Tryz
theorem ints_at {w:World} {A:Option Addr} {xs:List Int} {B:Nat} (h:Rd w B A (dw xs)) {k:Nat} (d:k<xs.length):∃g o,A=some ⟨g,o,none⟩/\g<B/\w.cell? ⟨g,o+k,none⟩=some (.int .i64 xs[k]):=by
 have b:Rd w B A (xs.flatMap λx=>[Value.int .i64 x]):=by
  have:dw xs=xs.flatMap λx=>[Value.int .i64 x]:=by
   unfold dw;exact List.map_eq_flatMap
  rw[<-this];exact h
 obtain⟨g,o,a,c,e⟩:=b.elem (n:=1) (λ_=>rfl) (by omega) d;exact⟨g,o,a,c,by have:=e 0 _ rfl;simpa using this⟩
theorem Gf (w:World) (g i:Nat) (v:Value):w.grownBy (w.setCell ⟨g,i,none⟩ v) (some g):=
 ⟨rfl,rfl,rfl,by simp,λq _ a=>zGt w _ _ q (by show q≠g;intro e;exact a (by rw[e]))⟩
def WO (xs ys:List Int) (a:Nat):Prop:=ys.length=xs.length/\∀k,k<xs.length->ys[k]? =if k<a\/xs.length-1-a<k then xs[xs.length-1-k]? else xs[k]?
theorem WO.zero (xs:List Int):WO xs xs 0:=⟨rfl,λk a=>by rw[zF2 (by omega)]⟩
theorem WO.step {xs f:List Int} {a b:Nat} {x y:Int} (h:WO xs f a) (p:a<b) (hb:b=xs.length-1-a) (q:f[a]? =some x) (n:f[b]? =some y):WO xs ((f.set a y).set b x) (a+1):=by
 obtain⟨i,l⟩:=h;have g:b<xs.length:=by omega
 refine⟨by simp[i],λk o=>?_⟩;have j:=l a (by omega);have c:=l b g;rw[zF2 (by omega)]at j c;rw[q]at j;rw[n]at c;rw[zKh,zKh]
 by_cases d:b=k
 ·subst d;rw[zF3 rfl,zF3 (by simp[i];omega),zF3 (by omega),j]
  congr 1
  omega
 rw[zF2 d]
 by_cases e:a=k
 ·subst e;rw[zF3 rfl,zF3 (by rw[i];omega),zF3 (by omega),c]
  congr 1
 rw[zF2 e,l k o]
 by_cases m:k<a\/xs.length-1-a<k
 ·rw[zF3 m,zF3 (by omega)]
 rw[zF2 m,zF2 (by omega)]
theorem WO.done {xs b:List Int} {a:Nat} (h:WO xs b a) (f:xs.length-1-a<=a):b=xs.reverse:=by
 obtain⟨e,d⟩:=h
 apply zJ1
 intro k
 by_cases c:k<xs.length
 ·rw[d k c,List.getElem?_reverse c]
  split
  ·rfl
  congr 1
  omega
 rw[zG7 (by omega),zG7 (by simp;omega)]
theorem DY (xs:List Int) (i:Nat) (x:Int):(dw xs).set i (.int .i64 x)=dw (xs.set i x):=by
 unfold dw;rw[List.map_set]
theorem zG {w:World} {base n c g:Nat} {xs:List Int} (h:w.ownsRow base 3 1 (.slice (some ⟨g,0,none⟩) n c) n (dw xs)) {k:Nat} (b:k<xs.length):w.cell? ⟨g,k,none⟩=some (.int .i64 xs[k]):=by
 obtain⟨f,e,a,_,d⟩:=ints_at (fM h) b;injection a with a
 injection a with e1 e2
 subst e1;subst e2
 simpa using d
theorem Lt (base g n c:Nat) (xs:List Int) (w:World) (J:xs.length=n) (P:0<n) (X:n<=1099511627776) (h:w.ownsRow base 3 1 (.slice (some ⟨g,0,none⟩) n c) n (dw xs)):Calls prog 53 #[.slice (some ⟨g,0,none⟩) n c] w λr w'=>r=.returned (.tuple #[])/\w'.ownsRow base 3 1 (.slice (some ⟨g,0,none⟩) n c) n (dw xs.reverse)/\w.grownBy w' (some g):=by
 have G:Hid (WO xs xs 0):=zH (WO.zero xs);have H:Hid (w.ownsRow base 3 1 (.slice (some ⟨g,0,none⟩) n c) n (dw xs)/\w.grownBy w (some g)):=zH ⟨h,below_grown zR _⟩;have D:=zH J;clear h J
 go_enter func53,ntmps53
 have i:((n:Int)-1)=((n-1-0:Nat):Int):=by omega
 go_wp2_with fail
 clear i
 go_loopw[2,3] (λd f wr=>∃(a:Nat) (e:List Int),2*a<=n/\d=.int .i64 a/\f=.int .i64 ((n-1-a:Nat):Int)/\Hid (WO xs e a)/\Hid (wr.ownsRow base 3 1 (.slice (some ⟨g,0,none⟩) n c) n (dw e)/\w.grownBy wr (some g))) (λd _ _=>n-(intOf d).toNat)
 case atStart=>exact⟨0,xs,by omega,rfl,by go_num,G,H⟩
 case round=>
  clear G H;obtain⟨a,e,ha,rfl,rfl,u,o⟩:=hrel;obtain⟨F,rfl⟩:∃F:World,F=wr:=⟨_,rfl⟩
  obtain⟨b,hb⟩:=zN (n-1-a)
  rw[hb]
  by_cases E:a<b
  ·
   have a2:e.length=n:=u.1.trans D.out;have t:a<e.length:=by omega
   have m:b<e.length:=by omega
   have q:=zG o.1 t;have A:=zG o.1 m;obtain⟨x,f⟩:=zN (e[a])
   obtain⟨y,d⟩:=zN (e[b])
   rw[f]at q;rw[d]at A;have B:Hid (e[a]? =some x/\e[b]? =some y):=zH ⟨by rw[zAg t,f],by rw[zAg m,d]⟩;have I:=zH o.1;have p:=zHs _ _ q;have Y:b<n:=by omega
   have a0:a<n:=by omega
   clear f d;go_upto_region 3 with fail
   refine Go.Proofs.YtbjnhllkdilpfaaGreat.wr 13 (some g) [.is (.slice (some ⟨g, 0, none⟩) n c),
     .is (.int .i64 (a:Nat)),
     .is (.slice (some ⟨g,0,none⟩) n c),
     .is (.int .i64 (b:Nat)),
     .is (.slice (some ⟨g,0,none⟩) n c),
     .is (.int .i64 (b:Nat)),
     .is (.pointer (some ⟨g,b,none⟩)),
     .is (.int .i64 y),
     .is (.slice (some ⟨g,0,none⟩) n c),
     .is (.int .i64 (a:Nat)),
     .is (.pointer (some ⟨g,a,none⟩)),
     .is (.int .i64 x),
     .is (.pointer (some ⟨g,a,none⟩)),
     .st (λv w=>w.ownsRow base 3 1 (.slice (some ⟨g,0,none⟩) n c) n ((dw e).set a (.int .i64 y))) (λ_ _ _ hb h=>aT h hb)] [6,7,10,11,12,13] (by kernel_rfl) (by kernel_rfl) (by kernel_rfl)
     (λC=>.c (ay.x (rG _) C rfl (λ_ _=>rfl)) <|
     .c (ay.x (rG _) C rfl (λ_ _=>rfl)) <|
     .c (ay.x (rG _) C rfl (λ_ _=>rfl)) <|
     .c (ay.x (rG _) C rfl (λ_ _=>rfl)) <|
     .c (ay.x (rG _) C rfl (λ_ _=>rfl)) <|
     .c (ay.x (rG _) C rfl (λ_ _=>rfl)) <|
     .c (ay.z (rG _) [4,5] [] (by kernel_rfl) λr s wr l f d j=>?_) <|
     .c (ay.z (rG _) [6] [] (by kernel_rfl) λr s wr l f d j=>?_) <|
     .c (ay.x (rG _) C rfl (λ_ _=>rfl)) <|
     .c (ay.x (rG _) C rfl (λ_ _=>rfl)) <|
     .c (ay.z (rG _) [8,9] [] (by kernel_rfl) λr s wr l f d j=>?_) <|
     .c (ay.z (rG _) [10] [] (by kernel_rfl) λr s wr l f d j=>?_) <|
     .c (ay.z (rG _) [0,1] [] (by kernel_rfl) λr s wr l f d j=>?_) <|
     .c (ay.g [7,12] [] (by kernel_rfl) λr s wr l f d j=>?_) <| .nil) ?_
   ·have R:=aA d.1 rfl rfl;have S:=aA d.2.1 rfl rfl;clear f d;go_simp;exact j _ _ zR rfl
   ·have M:=aA d.1 rfl rfl;clear f d;have r:=(bK l g _ p).trans A;go_simp;exact j _ _ zR rfl
   ·have U:=aA d.1 rfl rfl;have s:=aA d.2.1 rfl rfl;clear f d;go_simp;exact j _ _ zR rfl
   ·have a1:=aA d.1 rfl rfl;clear f d;have K:=(bK l g _ p).trans q;go_simp;exact j _ _ zR rfl
   ·have Z:=aA d.1 rfl rfl;have N:=aA d.2.1 rfl rfl;clear f d;go_simp;exact j _ _ zR rfl
   ·have Q:=aA d.1 rfl rfl;have W:=aA d.2.1 rfl rfl;clear f d;have d:=aT I.out l;have O:=qW d (g:=g) rfl a;have L:=(bK l g _ p).trans q;have f:=uM d (g:=g) rfl a (by unfold dw;rw[zF5];omega) (.int .i64 y);go_simp;exact j undef _ (zKx (below_grown l _) (Gf wr g a _)) (by simp) f
   intro l wr j f;have d:(λv w=>w.ownsRow base 3 1 (.slice (some ⟨g,0,none⟩) n c) n ((dw e).set a (.int .i64 y))) (l 13) wr:=f 13 rfl rfl;clear f;simp only[bJ,zF0,zGb,zF1,zFp,zFd,zFh,zF4,Act.put,zFf,zFw,zFx];generalize l 13=r at d⊢;rw[DY]at d;have M:=qW d (g:=g) rfl b;have L:=zG d (k:=b) (by rw[zH0];exact m);have f:=uM d (g:=g) rfl b (by unfold dw;rw[zF5,zH0];exact m) (.int .i64 x);rw[DY]at f;have s:Hid (WO xs ((e.set a y).set b x) (a+1)):=zH (u.step E (by rw[D.out];omega) B.1 B.2);have K:Hid ((wr.setCell ⟨g,b,none⟩ (.int .i64 x)).ownsRow base 3 1 (.slice (some ⟨g,0,none⟩) n c) n (dw ((e.set a y).set b x))/\w.grownBy (wr.setCell ⟨g,b,none⟩ (.int .i64 x)) (some g)):=zH ⟨f,(o.2.trans j).trans (Gf _ _ _ _)⟩;have i:((b:Int)-1)=((n-1-(a+1):Nat):Int):=by omega
   clear d f o u B I q A j;go_wp2
   go_roundw
   case rel=>exact⟨a+1,(e.set a y).set b x,by omega,by go_num,by rw[<-i],s,K⟩
   case measure=>simp[intOf];omega
  as_aux_lemma=>
  have d:=u.done (by rw[D.out];omega);subst d;clear u;go_wp2
  first|go_end0|refine zFg (v:=.tuple #[]) (by simp[results,results53,go_sem]) rfl ?_|refine zHg (v:=.tuple #[]) (by simp[results,results53,go_sem]) rfl ?_
  exact⟨rfl,o.1,o.2⟩
section
set_option maxRecDepth 100000
set_option maxHeartbeats 8000000
theorem zE4 {d:Nat} {S:Nat->Prop} {ax:Int} {ks:List Int} {bs:List fQ} (E:∀(i:Nat) (h:i<bs.length),GoodS i bs[i]) (hn:bs.length<=32) {i:Nat} (P:i<bs.length) {cs:List Value} {w:World} (h:wO d S ax ks bs cs w):
  Calls prog 30 #[.agg cs.toArray,i] w (Ro (λ_=>False) 3 1 gK (ints (lh bs i)) w):=by
 obtain⟨kv,bv,rfl,u,t,q,rfl,R,hb⟩:=h;obtain⟨D,C,rfl⟩:=u.form;have x:=zH (zA (DD E (i+1) i (by omega) P).1 (zA (Lr E P) E))
 go_enter func30,ntmps30
 have e:=Bk.new w 38 #[ax,.slice D ks.length C,.slice t bs.length q];have a:=ba w (.cells #[ax,.slice D ks.length C,.slice t bs.length q] 38);have M:w.heap.size<(w.alloc (.cells #[ax,.slice D ks.length C,.slice t bs.length q] 38)).heap.size:=by simp
 go_wp2
 generalize w.alloc (.cells #[ax,.slice D ks.length C,.slice t bs.length q] 38)=j at *;have F:=zH (zA a (zA (hb.old a) (e.cell 2)));have y:=a.size;clear a hb u e E
 go_loopw[1,5] (λp v wr=>∃(k:Int) (xs:List Int) (A:Option Addr) (c:Nat),p=.int .i64 k/\v=.slice A xs.length c/\k<(bs.length:Int)/\xs.length<=32/\ -1<=k/\Hid (Bd (λ_=>False) j.heap.size 3 1 gK xs (.slice A xs.length c) wr/\ints (lh bs i)=(if 0<=k then ints (lh bs k.toNat)else[])++xs.reverse/\Below j j wr)) (λp _ _=>(intOf p+1).toNat)
 case atStart=>exact⟨i,[],none,0,rfl,rfl,by omega,by simp,by omega,zH ⟨Bd.nil zL,by rw[zF3 (by omega)];simp,zGp _ _⟩⟩
 case round=>
  obtain⟨H,rfl⟩:∃z:World,z=wr:=⟨_,rfl⟩
  obtain⟨k,xs,A,c,rfl,rfl,Z,U,Y,a⟩:=hrel;have L:=a.2.2.size
  by_cases G:0<=k
  ·obtain⟨s,rfl⟩:∃s:Nat,k=s:=⟨k.toNat,by omega⟩
   have l:s<bs.length:=by omega
   have x2:H.cell? ⟨w.heap.size,2,none⟩=some (.slice t bs.length q):=bc a.2.2 F.2.2
   have a1:xs.length+1<=32:=by
    have n:=zGv List.length a.2.1;have f:=Lr x.2.2 l;rw[zF3 G]at n;have I:=x.1;simp[ints]at n;omega
   go_upto_region 3 with fail
   go_upto_region 4 with(at_builtin;refine oO PQ rfl _ _ rfl rfl (a.1.old (ba _ _)) rfl (zCj (Bk.newAt (by simp) _ _)) (λb h=>h.elim) (by simp;omega) (by simp;omega) ?_;intro A9 c9 Q J K N)
   have e:Below j j Q:=K _ _ zL (by simp;omega) (a.2.2.alloc (by omega) _);have O:=zH (zA J e);have y2:Q.cell? ⟨w.heap.size,2,none⟩=some (.slice t bs.length q):=bc e F.2.2;obtain⟨b,o,c2,rfl,_,W,⟨v4,v5,v6,v7,rfl,_⟩,B⟩:=(F.2.1.old e).elem l;have z:=B 0 _ rfl;rw[Nat.add_zero]at z;obtain⟨p,m⟩:=zN (bs[s].parent)
   have hg:=(x.2.2 s l).1;have r:=uf x.2.2 l;rw[m]at z hg r;have X:=zH r;clear B m J K N e x2 r;go_wp2_with fail
   go_roundw
   case rel=>exact⟨p,xs++[(s:Int)],A9,c9,rfl,by simp,by omega,by simp;omega,by omega,zH ⟨by simpa using O.1,by rw[a.2.1,zF3 G,Int.toNat_natCast,X.out];split<;>simp[ints],O.2⟩⟩
   case measure=>simp[intOf];omega
  have r:ints (lh bs i)=xs.reverse:=by rw[a.2.1,zF2 G];rfl
  have e:(ints (lh bs i)).length=xs.length:=by rw[r,List.length_reverse]
  have m:0<xs.length:=by rw[<-e];simp[ints];exact x.2.1
  obtain⟨g,J,a0,a2⟩:∃g,A=some ⟨g,0,none⟩/\j.heap.size<=g/\g<H.heap.size:=by
   obtain⟨g,cs,J,n,f,_⟩:=a.1.elem (k:=0) m;exact⟨g,J,n,f⟩
  subst J;have B:=zH (zA r e);clear r e;go_wp2_with fail
  refine(Lt j.heap.size g xs.length c xs H rfl m (by omega) a.1.ownI).mono ?_;rintro r w2 ⟨rfl,n,f⟩;have N:=zH (zA n f);clear n f;go_wp2
  go_ret
  have f:=N.2;have K:Below j j w2:=⟨f.os.trans a.2.2.os,f.tape.trans a.2.2.tape,f.output.trans a.2.2.output,zFi L f.size,λk u=>(f.block k (zFs u L) (λe=>by injection e with e;omega)).trans (a.2.2.block k u)⟩
  refine⟨some ⟨g,0,none⟩,c,by rw[B.2];rfl,?_,F.1.trans (K.mono y)⟩;have I:=N.1;rw[B.2];rw[show dw xs.reverse=dw (ints (lh bs i)) by rw[B.1]]at I;have h4:w2.ownsRow j.heap.size 3 1 (.slice (some ⟨g,0,none⟩) xs.length c) (ints (lh bs i)).length (dw (ints (lh bs i))):=by rw[B.2];exact I
  exact(Bd.ofI (S:=λ_=>False) h4).NU y
end
theorem zE7 {d N:Nat} {S:Nat->Prop} {ax:Int} {ks:List Int} {bs:List dL} {cs:List Value} {w:World} (h:dO d S ax ks bs cs w) (z:qy N bs) (C:N<=1048576):Calls prog 7 #[.int .i64 1,.agg cs.toArray] w (Ol d N ax ks w):=by
 have e:=h;obtain⟨M,bv,rfl,a,hb⟩:=h;obtain⟨l,k,rfl⟩:=a.form;obtain⟨m,f,rfl⟩:=hb.form;clear a hb
 go_enter func7,ntmps7
 go_upto_region 1 with fail
 have D:=(Bk.new w 29 #[ax,.slice l ks.length k,.slice m bs.length f]).alloc (.cells #[(),"",""] 29);have c:=Bk.newAt (w:=w.alloc (.cells #[ax,.slice l ks.length k,.slice m bs.length f] 29)) (g:=w.heap.size+1) (by simp) 29 #[(),"",""];have a:=bel2 w (.cells #[ax,.slice l ks.length k,.slice m bs.length f] 29) (.cells #[(),"",""] 29);generalize(w.alloc (.cells #[ax,.slice l ks.length k,.slice m bs.length f] 29)).alloc (.cells #[(),"",""] 29)=L at *;have E:=zH (WA (e.old a) z C);have o:=zH (zA a c);clear e z a c;go_wp2_with (refine aV aP eF rfl (.tmp 3) rfl rfl [.int .i64 ax,.slice l ks.length k,.slice m bs.length f] rfl (λj u K=>by rw[zFr,D.cell j];simpa using K) ?_)
 refine E.mono ?_;rintro e P ⟨F,a,rfl,c,p,t⟩;obtain⟨Q,J,rfl,i,s⟩:=c;obtain⟨y,r,rfl⟩:=i.form;obtain⟨x,A,rfl⟩:=s.form;have I:=o.2.old t;have O:=o.2.lt;go_wp2_with (refine ae aP rfl _ _ rfl rfl [.int .i64 ax,.slice y ks.length r,.slice x a.length A] rfl I rfl rfl rfl ?_;intro V n)
 obtain⟨H,B,G⟩:=zc3 n.bk;have q:=o.1.trans (t.mono o.1.size);exact zFg (v:=.agg #[ax,.slice y ks.length r,.slice x a.length A]) (by simp[results,results7,go_sem,H,B,G]) rfl ⟨[_,_,_],a,rfl,⟨_,_,rfl,(i.keep (dB.fE n λb hb=>by omega)).keep λb hb c=>⟨by omega,c,rfl⟩,(s.keep (dB.fE n λb hb=>by omega)).keep λb hb c=>⟨by omega,c,rfl⟩⟩,p,n.below _ _ q (by omega)⟩
theorem back {N:Nat} {ax:Int} {ks:List Int} {bs:List dL} (a:1<=ax/\ax<=3) (h:qy N bs):∃F:List fQ,gU ax ks bs=(⟨ax,ks,F⟩,0)/\Oo F F.length=bs/\SmT F/\zAd ax F/\Ik bs:=by
 obtain⟨F,j,m,k⟩:=WU bs [] (λb hb=>by
  have g:=h.sg b hb;refine⟨λp c=>⟨(g.2.2.2 (p.form,p.type) (zGa.2 ⟨p,c,rfl⟩)).1,(h.rows b hb p c).2.2⟩,(h.ps hb).2,?_⟩;have d:=(h.ps hb).1;cases hx:b.ps with
  |nil=>rw[hx]at d;simp at d
  |cons p l=>exact⟨p,l,rfl,g.2.2.1 (p.form,p.type) (l.map λp=>(p.form,p.type)) (by simp[KP,hx])⟩) (by have:=h.nb;simp;omega)
 rw[List.nil_append]at j k;have e:gU ax ks bs=(⟨ax,ks,F⟩,0):=by unfold gU;rw[j]
 have c:=Lh (ks:=ks) a h (by rw[e]);rw[e]at c;have f:∀(i:Nat) (d:i<F.length),GoodS i F[i]:=λi d=>⟨(c.2.2 i d).1,(c.2.2 i d).2.2.2⟩
 refine⟨F,e,?_,λs a=>?_,⟨a,c.2.1,f⟩,h.nb,h.ids⟩
 ·have:=k f;rw[zF4,<-List.range_eq_range']at this;exact this
 obtain⟨o,q,d⟩:=m s a;exact⟨by omega,by omega,λe n=>by have:=d e n;omega⟩
end Go.Proofs.YtbjnhllkdilpfaaGreat
