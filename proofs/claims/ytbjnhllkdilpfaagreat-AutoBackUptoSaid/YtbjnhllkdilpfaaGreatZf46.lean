/- Part 46 of the proof. No conditions. -/
import Derived.Test.YtbjnhllkdilpfaaGreatZf33
import Derived.Test.YtbjnhllkdilpfaaGreatZf30
set_option linter.unusedVariables false
set_option linter.unusedSimpArgs false
set_option maxRecDepth 100000
set_option maxHeartbeats 8000000
namespace Go.Proofs.YtbjnhllkdilpfaaGreat
open Go.RowKit _root_.Go.Proofs.Tryz
theorem zE2 {d N:Nat} {S:Nat->Prop} {ax:Int} {ks:List Int} {bs:List dL} {cs:List Value} {w:World} (h:dO d S ax ks bs cs w) (hG:qy N bs) (hN:17*N<=1048576):Calls prog 20 #[.agg cs.toArray] w (Ol d (17*N) ax ks w):=by
 have hp:=h;obtain⟨kv,bv,rfl,hk,hb⟩:=h;obtain⟨Ak,ck,rfl⟩:=hk.form;obtain⟨Ab,cb,rfl⟩:=hb.form;clear hk hb
 go_enter func20,ntmps20
 go_upto_region 1 with fail
 have A:=(Bk.new w 29 #[ax,.slice Ak ks.length ck,.slice Ab bs.length cb]).alloc (.cells #[(),"",""] 29);have k2:=Bk.newAt (w:=w.alloc (.cells #[ax,.slice Ak ks.length ck,.slice Ab bs.length cb] 29)) (g:=w.heap.size+1) (by simp) 29 #[(),"",""];have a2:=bel2 w (.cells #[ax,.slice Ak ks.length ck,.slice Ab bs.length cb] 29) (.cells #[(),"",""] 29);generalize(w.alloc (.cells #[ax,.slice Ak ks.length ck,.slice Ab bs.length cb] 29)).alloc (.cells #[(),"",""] 29)=w0 at *;have D:=zH (Qb (hp.old a2));have HG:=zH hG;have Tm:=k2.lt;clear hp hG;go_wp2_with (refine aV aP eF rfl (.tmp 1) rfl rfl [.int .i64 ax,.slice Ak ks.length ck,.slice Ab bs.length cb] rfl (λj u hu=>by rw[zFr,A.cell j];simpa using hu) ?_)
 refine D.mono ?_;rintro e w2 ⟨kv,bv,H,B,rfl,r,cp,cz,m,jy,K⟩;obtain⟨qm,E,rfl⟩:=m.form;obtain⟨zD,a,rfl,_⟩:=aK jy.dJ;obtain⟨n,z⟩:=zN H.length
 rw[z]at jy⊢;have Bj:=zH z;have k2:=k2.old K;have y:=zH (a2.trans (K.mono a2.size));have qM:=zH (zA r (zA m jy));have oK:=zH (A.old K);clear r m jy K a2 A D z;go_upto_region 2 with(refine ae aP rfl _ _ rfl rfl [.int .i64 ax,.slice qm ks.length E,.slice zD n a] rfl (Bk.new _ _ _) rfl rfl rfl ?_;intro W p;go_frame)
 have A:Below w2 w2 W:=p.below _ _ (ba _ _) zL;have cr:W.heap.size=w2.heap.size+1:=by rw[p.size];simp
 have HW:=zH (zA (y.trans (A.mono y.size)) (zA (k2.old A) (zA p.bk (zA (qM.2.1.keep (.old A)) (qM.2.2.old A)))));have x2:=p.bk.cell 2;have ca:n<=4:=by have:=HG.nb;rw[<-qM.1]at this;simpa[Bj.out]using this
 have y1:=(oK.old A).cell 0;clear p A k2 y;have zW:Hid (Gx N H):=zH (.of (by rw[qM.1];exact HG.out))
 by_cases h2:ax=2
 ·subst h2;have kk:=HW.2.1;go_wp2_with (first|(refine aV aP eF rfl (.tmp 3) rfl rfl [.int .i64 2,.slice qm ks.length E,.slice zD n a] rfl (λj u hu=>by rw[zFr,HW.2.2.1.cell j];simpa using hu) ?_)|(refine ae aP rfl _ _ rfl rfl [.int .i64 2,.slice qm ks.length E,.slice zD n a] rfl kk rfl rfl rfl ?_;intro V p9))
  obtain⟨d0,d1,d2⟩:=zc3 p9.bk;have a8:Sl gK (λq=>w0.heap.size<=q/\q<B) ks (.slice qm ks.length E) V:=HW.2.2.2.1.keep (dB.fE p9 λb hb=>by omega);have be:qy (17*N) (H.map (fJ d)):=by rw[qM.1];exact HG.more (by omega)
  have a3:=(HW.2.2.2.2.grown p9.grown (by omega)).plan (ax:=2) (S':=λq=>w.heap.size<=q) a8 (λq U=>by omega) (λq U=>by omega) be hN;exact zFg (v:=.agg #[.int .i64 2,.slice qm ks.length E,.slice zD n a]) (by simp[results,results20,go_sem,d0,d1,d2]) rfl ⟨[_,_,_],_,rfl,a3,be,p9.below _ _ HW.1 (by omega)⟩
 have ct:(ax==2)=false:=by rw[zFz];exact h2
 go_upto_region 5 with fail
 clear y1 k2
 go_loopw[26] (λi wr=>∃k:Nat,k<=n/\i=.int .i64 k/\Hid (Below B W wr/\W.heap.size<=wr.heap.size/\Bk wr w2.heap.size 29 #[ax,.slice qm ks.length E,.slice zD n a]/\∃xs,iC B d (.slice zD n a) xs wr/\mX xs=mX H/\Gx (17*N) xs/\∀j b,k<=j->xs[j]? =some b->Gx N [b])) (λi _=>n-(intOf i).toNat)
 case atStart=>exact⟨0,zFj _,rfl,zH ⟨zGp _ _,zFv _,HW.2.2.1,H,HW.2.2.2.2,rfl,λb hb p hp=>by obtain⟨h1,h2,h3⟩:=zW.out b hb p hp;exact⟨by omega,by omega,h3⟩,λj b _ hj b' bl=>by rw[zG3.1 bl];exact zW.out b (zGj hj)⟩⟩
 case round=>
  obtain⟨k,hk,rfl,hI⟩:=hrel;obtain⟨wo,rfl⟩:∃z:World,z=wr:=⟨_,rfl⟩
  have Nb:=hI.2.1
  by_cases M:k<n
  ·obtain⟨xs,jy,a5,rY,D⟩:=hI.2.2.2;have ap:k<H.length:=by rw[Bj.out];exact M
   obtain⟨ab,s1,X,L,I,s5⟩:=wR a5 ap;obtain⟨g,cs,m,cf,cw,⟨rfl,_⟩,hc⟩:=(jy.bd (S:=λ_=>True)).elem ab;subst m;obtain⟨np,F⟩:=zN (H[k].ps.length)
   obtain⟨Ap,R,m,_⟩:=aK (jy.prt _ (zFe ab));rw[I,F]at m;have b9:=zH (L.symm.trans m)
   have cd:np<=8:=by
    have:=(HG.ps (b:=fJ d H[k]) (by rw[<-qM.1];exact zGa.2 ⟨_,zFe ap,rfl⟩)).2;rw[<-F]
    simpa[fJ]using this
   have G:xh d (λq=>B<=q) (fJ d xs[k]) xs[k].cells wo:=jy.brS (λz hz=>by
    obtain⟨b,hb,hz⟩:=zGn.1 hz;obtain⟨p,hp,hz⟩:=zGn.1 hz;obtain⟨h1,h2,_⟩:=rY b hb p hp;simp only[dQ,zF6,zGi,zHt]at hz;rcases hz with rfl|rfl
    ·exact zFi h1 hN
    exact zFi h2 hN) (λq h=>h) (zFe ab) (by rw[I,F];omega)
   have J:xs[k].cells=[.int .i64 xs[k].id,.int .i64 xs[k].window,.slice Ap np R]:=by unfold bQ.cells;rw[m]
   rw[J]at hc G;have P5:=zH F;obtain⟨kL,O⟩:∃z:Nat,xs[k].id=z:=⟨_,rfl⟩
   obtain⟨win,r⟩:=zN (xs[k].window)
   rw[O,r]at hc G;go_upto_region 7 with(first|(refine aj gW rfl _ rfl rfl [.int .i64 kL,.int .i64 win,.slice Ap np R] rfl hc ?_)|(refine ae (aY gW.1) rfl _ _ rfl rfl [.int .i64 kL,.int .i64 win,.slice Ap np R] rfl (Bk.new _ _ _) rfl rfl rfl ?_;intro W1 p1;go_frame))
   have y:Below wo wo W1:=p1.below _ _ (ba _ _) zL;have cx:W1.heap.size=wo.heap.size+1:=by rw[p1.size];simp
   have Qk:B<=wo.heap.size:=by omega
   have Q:=zH (Ia (CK.keep (dB.old y) G));have tZ:=zH (zA p1.bk y);have JY:=zH I;have zY:=zH (zA jy (zA a5 (zA rY D)));clear p1 hc J m y G jy a5 rY D s1 X L I F O r;go_wp2_with (refine aj gW rfl _ rfl rfl [.int .i64 kL,.int .i64 win,.slice Ap np R] rfl (λi v hv=>by rw[zFr,tZ.1.cell i];simpa using hv) ?_)
   refine Q.mono ?_;rintro e V2 ⟨Aq,cq,rfl,U,r⟩;have m:(fJ d xs[k]).ps.length=np:=by simp[fJ,JY.out,P5.out]
   have D:∀z∈jf 0 (fJ d xs[k]).ps,z<np:=λz hz=>by
    have:=(uP _ _ z hz).2;rw[m]at this;omega
   have y:=yB (fJ d xs[k]).ps 0
   have b8:(jf 0 (fJ d xs[k]).ps).length<=np:=by
    have:=KX (fJ d xs[k]).ps 0;rw[m]at this;exact this
   clear m;obtain⟨P,L⟩:=zN (jf 0 (fJ d xs[k]).ps)
   rw[L]at D y b8 U⊢;obtain⟨m,I⟩:=zN P.length
   have G:(ints P).length=m:=by simp[ints,I]
   rw[G]at U⊢;have HP:=zH (zA D (zA y (zA I L)));rw[I]at b8;have cu:=r.size;have F:MvS B d (.slice (some ⟨g,0,none⟩) n a) H N k 0 0 0 P W V2:=⟨hI.1.trans ((tZ.2.trans (r.mono tZ.2.size)).mono Qk),xs,(zY.1.old tZ.2).old r,zY.2.1,.start zY.2.2.1 zY.2.2.2⟩
   have bq:Hid (MvS B d (.slice (some ⟨g,0,none⟩) n a) H N k 0 0 0 P W V2/\V2.heap.size<=V2.heap.size/\Bk V2 w2.heap.size 29 #[ax,.slice qm ks.length E,.slice (some ⟨g,0,none⟩) n a]/\Bk V2 wo.heap.size 67 #[kL,win,.slice Ap np R]/\Bd (λ_=>False) W1.heap.size 3 1 gK (ints P) (.slice Aq m cq) V2):=zH ⟨F,zFv _,(hI.2.2.1.old tZ.2).old r,tZ.1.old r,U⟩;clear D y L G F U r I Q;go_upto_region 9 with fail
   go_loopw[7,8,34] (λ_ _ i wr=>∃pos:Nat,pos<=m/\i=.int .i64 pos/\Hid (MvS B d (.slice (some ⟨g,0,none⟩) n a) H N k pos 0 0 P W wr/\V2.heap.size<=wr.heap.size/\Bk wr w2.heap.size 29 #[ax,.slice qm ks.length E,.slice (some ⟨g,0,none⟩) n a]/\Bk wr wo.heap.size 67 #[kL,win,.slice Ap np R]/\Bd (λ_=>False) W1.heap.size 3 1 gK (ints P) (.slice Aq m cq) wr)) (λ_ _ i _=>m-(intOf i).toNat)
   case atStart=>exact⟨0,zFj _,rfl,bq⟩
   case round=>
    obtain⟨pos,c7,rfl,hJ⟩:=hrel;obtain⟨wp,rfl⟩:∃z:World,z=wr:=⟨_,rfl⟩
    have cy:=hJ.2.1
    by_cases a3:pos<m
    ·have bi:pos<(ints P).length:=by simp[ints,HP.2.2.1];exact a3
     have bb:pos<P.length:=by rw[HP.2.2.1];exact a3
     obtain⟨gI,co,r,c4,c8,rfl,D⟩:=hJ.2.2.2.2.elem bi;subst r;obtain⟨y,r⟩:=zN (P[pos])
     have Qw:wp.cell? ⟨gI,pos,none⟩=some (.int .i64 (y:Nat)):=by
      have:=D 0 _ rfl
      simpa[ints,r]using this
     have ao:y<np:=r▸HP.1 _ (zFe bb);have a9:=zH (show P[pos]? =some y by rw[zAg bb,r]);have HJ:=hJ;clear D r;go_wp2_with fail
     have a2:H[k]? =some H[k]:=zAg ap;have r:y<H[k].ps.length:=by rw[P5.out];exact ao
     have F:H[k].ps[y]? =some H[k].ps[y]:=zAg r
     obtain⟨gp,G⟩:∃gp,Ap=some ⟨gp,0,none⟩:=by
      obtain⟨_,Ij,h1,h2,_⟩:=HJ.1;obtain⟨b,p,h3,h4,_,D⟩:=Ih h2 a2 F;obtain⟨L,rfl⟩:=zFc.1 h3;obtain⟨I,rfl⟩:=zFc.1 h4;obtain⟨O,c1,h9,_⟩:=h1.s.part L I;rw[D,b9.out]at h9;injection h9 with h9
      exact⟨O,h9⟩
     subst G
     have nN:Hid (∀Ij,mX Ij=mX H->∀t,t<np->∃b p,Ij[k]? =some b/\b.ps[t]? =some p/\b.parts=.slice (some ⟨gp,0,none⟩) np R):=zH λIj h1 t ht=>by
      obtain⟨b,p,h3,h4,_,D⟩:=Ih h1 a2 (i:=t) (p0:=H[k].ps[t]'(by rw[P5.out];exact ht)) (zAg _);exact⟨b,p,h3,h4,D.trans b9.out⟩
     have HF:Hid (∀Ij,mX Ij=mX H->∀b p,Ij[k]? =some b->b.ps[y]? =some p->p.form≠3):=zH λIj h1 b p h3 h4=>by
      obtain⟨b1,p1,G,D,L,_⟩:=Ih (zY.2.1.trans h1.symm) h3 h4;rw[<-L];obtain⟨q,I,h9⟩:=F8 (fJ d xs[k]).ps 0 y (by rw[HP.2.2.2];exact zGj a9.out);rw[zAg ab]at G;injection G with G
      subst G;simp[fJ,D]at I;rw[<-I]at h9;exact h9
     clear F a2 r
     go_loopw[9] (λi wr=>∃kk:Nat,kk<=2/\i=.int .i64 kk/\Hid (MvS B d (.slice (some ⟨g,0,none⟩) n a) H N k pos kk 0 P W wr/\WC V2.heap.size w2.heap.size wo.heap.size W1.heap.size #[ax,.slice qm ks.length E,.slice (some ⟨g,0,none⟩) n a] #[kL,win,.slice (some ⟨gp,0,none⟩) np R] (ints P) (.slice (some ⟨gI,0,none⟩) m cq) wr)) (λi _=>2-(intOf i).toNat)
     case atStart=>exact⟨0,by decide,rfl,zH HJ.out⟩
     case round=>
      obtain⟨kk,bo,rfl,Y⟩:=hrel;obtain⟨wq,rfl⟩:∃z:World,z=wr:=⟨_,rfl⟩
      have cm:=Y.2.1
      by_cases bw:kk<2
      ·obtain⟨C,rfl⟩:∃C:Bool,kk=C.toNat:=by
        rcases(by omega:kk=0\/kk=1)with rfl|rfl
        ·exact⟨false,rfl⟩
        exact⟨true,rfl⟩
       obtain⟨c2,af,r,G,I⟩:=Y.1;obtain⟨b2,p2,K,D,O⟩:=nN.out af G y ao;have cg:wq.cell? ⟨gp,y*4+2,none⟩=some p2.g:=(r.s.DX K D O false).1;have cc:wq.cell? ⟨gp,y*4+3,none⟩=some p2.c:=(r.s.DX K D O true).1;have b0:(rowA C p2).2.length<=N:=I.row b2 K pos y p2 C zL a9.out D (.inr zL);have kb:=Y.2.2.2.1.cell 2;have F:Qm (λq=>B<=q) B d (.slice (some ⟨g,0,none⟩) n a) H N k pos y C 0 P (rowA C p2).1 (rowA C p2).2 (.slice none 0 0) [] af wq:=⟨.start (r.s.wide λq U=>U.1) ⟨b2,p2,K,D,rfl⟩ (by omega),G,I⟩
       obtain⟨Av,cv,Q,_⟩:=aK (r.mO _ F.mem);obtain⟨nl,X⟩:=zN ((rowA C p2).2)
       simp only[X]at b0 Q F;obtain⟨nn,L⟩:=zN nl.length
       rw[L]at b0 Q;rw[Q]at F;have HS:=zH (zA F Q);have yS:=zH L;clear F Q X L I r G K D O;go_upto_if 50 with fail
       go_cut[10] (λv wx=>v=.slice Av nn cv/\wx=wq)
       case first=>
        cases C
        ·go_wp2_with fail
         go_meet
         exact⟨HS.2,rfl⟩
        go_wp2_with fail
        go_meet
        exact⟨HS.2,rfl⟩
       case rest=>
       obtain⟨rfl,rfl⟩:=hcut;obtain⟨b7,r⟩:=zN C.toNat
       rw[r]at bw⊢;have b6:=zH r;clear r bo;go_upto_region 19 with fail
       go_loopw[11,59] (λv i wr=>∃x:Nat,x<=nn/\i=.int .i64 x/\Hid (Below B W wr/\WC V2.heap.size w2.heap.size wo.heap.size W1.heap.size #[ax,.slice qm ks.length E,.slice (some ⟨g,0,none⟩) n a] #[kL,win,.slice (some ⟨gp,0,none⟩) np R] (ints P) (.slice (some ⟨gI,0,none⟩) m cq) wr/\∃ss xs,Qm (λq=>B<=q) B d (.slice (some ⟨g,0,none⟩) n a) H N k pos y C x P (.slice Av nn cv) nl v ss xs wr)) (λ_ i _=>nn-(intOf i).toNat)
       case atStart=>exact⟨0,zFj _,rfl,zH ⟨c2,Y.2,_,_,HS.1⟩⟩
       case round=>
        obtain⟨x,hx,rfl,hL⟩:=hrel;obtain⟨wl,rfl⟩:∃z:World,z=wr:=⟨_,rfl⟩
        obtain⟨ad,OE,ss,XE,D⟩:=hL.out;obtain⟨As,a1,r,_⟩:=D.st.form;subst r;obtain⟨sl,r⟩:=zN ss.length
        rw[r]at D hL⊢;have bt:=zH r;clear r
        by_cases aa:x<nn
        ·have bh:x<nl.length:=by rw[yS.out];exact aa
         obtain⟨gv,ce,F,hc,r⟩:=D.elem bh;rw[yS.out]at F;injection F with F _ e3
         subst F e3;obtain⟨cs,J⟩:=zN (nl[x].cells)
         rw[J]at hc;have Z:cs.length=7:=by rw[<-J];exact ah.len _
         have ag:cs.all Value.oneCell'=true:=CK.one (P:=Hy d) ⟨J.symm,r⟩;go_upto_region 21 with(first|(refine aj dR rfl _ rfl rfl cs Z hc ?_)|(refine ae (aY dR.1) rfl _ _ rfl rfl cs rfl (Bk.new _ _ _) Z rfl ag ?_;intro W5 G;go_frame))
         have F:Below wl wl W5:=G.below _ _ (ba _ _) zL;have Q:Hid (Calls prog 49 #[.agg cs.toArray] W5 (LkW W5)):=zH (by rw[<-J];exact WH d _ nl[x] W5 (r.keep (dB.old F)));have I:=G.bk;have L:=zH F;clear G F hc;go_wp2_with (refine aj dR rfl _ rfl rfl cs Z (nd0 I) ?_)
         refine Q.mono ?_;rintro e W6 ⟨qa,a4,rfl,F⟩;have G:Below wl wl W6:=L.trans (F.mono L.size);have O:=I.old F;have HX:=zH (zA (ad.trans (G.mono (by have:=OE.1;omega))) (zA (OE.old G) (zA (D.old G) (zA (r.keep (dB.old G)) O))));clear I O F G Q L r D ad OE;go_upto_region 22 with fail
         go_cut[77] (λv wx=>∃z:Bool,v=.bool z/\(z=false->0<=a4/\a4<pos)/\wx=W6)
         case first=>
          cases qa
          ·by_cases r:a4<0
           ·go_wp2_with fail
            go_meet
            exact⟨true,rfl,λh=>absurd h (by decide),rfl⟩
           by_cases h1:(pos:Int)<=a4
           ·go_wp2_with fail
            go_meet
            exact⟨true,rfl,λh=>absurd h (by decide),rfl⟩
           go_wp2_with fail
           go_meet
           exact⟨false,rfl,λ_=>by omega,rfl⟩
          go_wp2_with fail
          go_meet
          exact⟨true,rfl,λh=>absurd h (by decide),rfl⟩
         case rest=>
         obtain⟨zb,rfl,hz,rfl⟩:=hcut;have cj:=HX.2.1.1;cases zb
         ·obtain⟨ci,ch⟩:=hz rfl;obtain⟨l,rfl⟩:∃l:Nat,a4=l:=⟨a4.toNat,by omega⟩
          have bx:l<m:=by omega
          have WB:l<P.length:=by rw[HP.2.2.1];exact bx
          obtain⟨t,ht⟩:=zN (P[l])
          have bp:t<np:=ht▸HP.1 _ (zFe WB);have HT:=zH (show P[l]? =some t by rw[zAg WB,ht])
          have cn:wc.cell? ⟨gI,l,none⟩=some (.int .i64 (t:Nat)):=by
           obtain⟨I,G,r,_,_,rfl,F⟩:=HX.2.1.2.2.2.elem (k:=l) (by simp[ints];exact WB);injection r with r
           injection r with r
           subst r;have:=F 0 _ rfl
           simpa[ints,ht]using this
          obtain⟨b3,p3,A,G,I⟩:=nN.out XE HX.2.2.1.sh t bp;have kb:=HX.2.1.2.2.1.cell 2;obtain⟨r0,r1,r2,r3⟩:=HX.2.2.1.pl.DX A G I true;obtain⟨s0,s1,_,_⟩:=HX.2.2.1.pl.DX A G I false;clear ht hz;go_upto_region 24 with fail
          go_quiet (fail)
          have r:Below wc wc (wc.drewN nq):=zHf zR nq;obtain⟨wd,F⟩:=zN (wc.drewN nq)
          rw[F]at r⊢;have cl:=r.size;have Y8:=HX.2.2.1.old r;have kn:=HX.2.2.2.2.old r;have ar:=HX.2.1.old r;have aq:=HX.1.trans (r.mono (by omega));have L:=HX.2.2.2.1.keep (dB.old r);obtain⟨r0,r1,r2,r3⟩:=Y8.pl.DX A G I true;obtain⟨s0,s1,_,_⟩:=Y8.pl.DX A G I false;have Q:b3.parts.ownBlock=some gp:=by rw[I];rfl
          have a0:=Y8.pl.prt _ (zGj A);have b5:=(a0.lt gp Q).1;have am:=Y8.mi.all _ (zGj A) _ (zGj G)
          have ak:∀c,rowA c p3∈bI XE:=λc=>by
           obtain⟨h1,rfl⟩:=zFc.1 A;obtain⟨h2,rfl⟩:=zFc.1 G;exact yE h1 h2 c
          have vV:Hid (∀wr,Below wd wd wr->okS (λq=>(B<=q/\some q≠(Value.slice As sl a1).ownBlock)/\aJ (.slice (some ⟨g,0,none⟩) n a) XE q) d nl[x] wr):=zH λwr hw=>L.keep (dB.old hw)
          have al:l<pos:=by omega
          clear F r L;have X:=zH (zA A (zA G (zA Q (zA a0 (zA Y8 (zA ar aq))))))
          by_cases av:p3.form=2
          ·have hr:wd.ownsRow B 122 7 p3.c p3.cs.length (p3.cs.flatMap ah.cells):=Y8.pl.mO _ (ak true);obtain⟨A1,c1,L,_⟩:=aK hr;obtain⟨n1,O⟩:=zN p3.cs.length
           have b4:n1<=17*N:=O▸am.2.1;rw[O]at L hr;have pc:wd.cell? ⟨gp,t*4+3,none⟩=some p3.c:=r0;rw[L]at hr pc;rw[av]at r2;have a7:=zH (zA L O);have br:=zH av;clear L O av a0 Y8 ar aq A G Q I r0 s0 s1;go_upto_region 26 with fail
           refine wu (λ_=>false) [.is (.pointer (some ⟨gp,t*4,none⟩)),.is (.pointer (some ⟨gp,t*4,none⟩)),.is (.pointer (some ⟨gp,t*4+3,none⟩)),.is (.slice A1 n1 c1),.is (.agg cs.toArray),.is (.int .i64 (n1:Nat)),sZ] [5,6] 6 #[true,true,true,true,true,true,true,false,false,false,false,false,false] (by kernel_rfl) (by kernel_rfl) (by kernel_rfl) (by kernel_rfl) (by kernel_rfl)
            (λC=>.c (px C rfl (λ_ _=>rfl)) <| .c (px C rfl (λ_ _=>rfl)) <| .c (px C rfl (λ_ _=>rfl)) <| .c (px C rfl (λ_ h=>bH (jD (bc h pc)))) <| .c (px C rfl (λ_ h=>bH (dW dR.agg (aY dR.toZL) cs Z λj u hu=>bc h (nd0 kn j u hu)))) <| .c (pz [3] [] (by kernel_rfl) λqK qa wr F qO qF Y=>?_) <| .c (pz [] [] (by kernel_rfl) λqK qa wr F qO qF Y=>?_) <| .nil) ?_
           ·have r:=aA qF.1 rfl rfl;clear qO qF;go_simp;exact Y _ _ zR rfl
           ·clear qO qF;refine pI dR (.const (.agg #[(),(),"",(),.int .u64 0,(),()])) rfl _ rfl rfl ?_;exact Y _ _ (zR.alloc zL _) ⟨_,rfl,Bk.new _ _ _⟩
           intro f qx wr F hR hS;obtain⟨gz,aw,kz⟩:=hR 6 rfl rfl;clear hR hS;simp only[bJ,zF0,zGb,zF1,zFp,zFd,zFh,zF4,Act.put,zFf,zFw,zFx];rw[aw];refine qZ (f:=f) (k:=7) (C:=true) (o:=t*4) rfl (by kernel_rfl) (by kernel_rfl) (λ_ _ _ _ _ h=>h) rfl rfl rfl rfl rfl (aT hr F) kz Z ag (by omega) (by have:=F.size;omega) (bc F pc) ((zJy (F.block gp r3)).trans r1) (λe=>own_ne hr X.2.2.2.1 (by decide) |>.elim (λh=>by rw[<-e]at h;cases h) λh=>h (e.symm.trans X.2.2.1.symm)) ?_;intro g9 c9 w8 w9 _ PZ a6 KC fV _;have an:=zH ((X.2.2.2.2.1.old F).zAh (X.2.2.2.2.2.2.trans (F.mono (by omega))) (X.2.2.2.2.2.1.old F) (C:=true) (by have:=F.size;omega) (by omega) (by omega) HP.2.1 a9.out al HT.out X.1 X.2.1 (λ_=>by rw[br.out];decide) X.2.2.1 (vV.out wr F) a7.1 a7.2 J KC PZ fV a6);clear PZ a6 KC fV hr pc kz kn;simp only[Act.put,zFf,zFw,zFx];go_wp2_with fail
           exact⟨⟨x+1,aa,by go_num,an⟩,by simp[intOf];omega⟩
          have c3:((p3.form:Int)==2)=false:=zB (by omega)
          have hr:wd.ownsRow B 122 7 p3.g p3.gs.length (p3.gs.flatMap ah.cells):=Y8.pl.mO _ (ak false);obtain⟨A1,c1,L,_⟩:=aK hr;obtain⟨n1,O⟩:=zN p3.gs.length
          have b4:n1<=17*N:=O▸am.1;rw[O]at L hr;have pc:wd.cell? ⟨gp,t*4+2,none⟩=some p3.g:=s0;rw[L]at hr pc;have a7:=zH (zA L O);clear L O a0 Y8 ar aq A G Q I r0 s0 r1;have bm:Hid (∀wr,Below wd wd wr->Calls prog 50 #[.agg cs.toArray,.int .i64 (l:Nat)] wr (FoW d (λq=>(B<=q/\some q≠(Value.slice As sl a1).ownBlock)/\aJ (.slice (some ⟨g,0,none⟩) n a) XE q) wr)):=zH λwr hw=>by rw[<-J];exact WG d _ nl[x] l wr (vV.out wr hw)
          go_upto_region 27 with fail
          refine wu (λ_=>false) [.is (.pointer (some ⟨gp,t*4,none⟩)),.is (.pointer (some ⟨gp,t*4,none⟩)),.is (.pointer (some ⟨gp,t*4+2,none⟩)),.is (.slice A1 n1 c1),.is (.agg cs.toArray),.is (.int .i64 (l:Nat)),.st (λv w=>∃nd:ah,v=.agg nd.cells.toArray/\okS (λq=>((B<=q/\some q≠(Value.slice As sl a1).ownBlock)/\aJ (.slice (some ⟨g,0,none⟩) n a) XE q)\/wd.heap.size<=q) d nd w) (λ_ _ _ hb ⟨nd,h1,h2⟩=>⟨nd,h1,h2.keep (dB.old hb)⟩),.is (.int .i64 (n1:Nat)),sZ] [6,7,8] 6 #[true,true,true,true,true,true,true,true,true,false,false,false,false,false,false] (by kernel_rfl) (by kernel_rfl) (by kernel_rfl) (by kernel_rfl) (by kernel_rfl)
           (λC=>.c (px C rfl (λ_ _=>rfl)) <| .c (px C rfl (λ_ _=>rfl)) <| .c (px C rfl (λ_ _=>rfl)) <| .c (px C rfl (λ_ h=>bH (jD (bc h pc)))) <| .c (px C rfl (λ_ h=>bH (dW dR.agg (aY dR.toZL) cs Z λj u hu=>bc h (nd0 kn j u hu)))) <| .c (px C rfl (λ_ _=>rfl)) <| .c (pz [4,5] [] (by kernel_rfl) λqK qa wr F qO qF Y=>?_) <| .c (pz [3] [] (by kernel_rfl) λqK qa wr F qO qF Y=>?_) <| .c (pz [] [] (by kernel_rfl) λqK qa wr F qO qF Y=>?_) <| .nil) ?_
          ·have c0:=aA qF.1 rfl rfl;have c5:=aA qF.2.1 rfl rfl;clear qO qF;go_simp
           go_at_call 50
           refine(bm.out wr F).mono ?_;rintro r w9 ⟨nd,rfl,bj,dM⟩;exact Y _ _ dM ⟨nd,rfl,bj.keep λq U M=>⟨U.imp id λh=>zFi F.size h,M,rfl⟩⟩
          ·have c6:=aA qF.1 rfl rfl;clear qO qF;go_simp;exact Y _ _ zR rfl
          ·clear qO qF;refine pI dR (.const (.agg #[(),(),"",(),.int .u64 0,(),()])) rfl _ rfl rfl ?_;exact Y _ _ (zR.alloc zL _) ⟨_,rfl,Bk.new _ _ _⟩
          intro f qx wr F hR hS;obtain⟨nd,c0,bj⟩:=hR 6 rfl rfl;obtain⟨gz,aw,kz⟩:=hR 8 rfl rfl;clear hR hS;simp only[bJ,zF0,zGb,zF1,zFp,zFd,zFh,zF4,Act.put,zFf,zFw,zFx];rw[aw,c0];have r:okS (λq=>(B<=q/\some q≠(Value.slice As sl a1).ownBlock)/\aJ (.slice (some ⟨g,0,none⟩) n a) XE q) d nd wr:=bj.keep λq U M=>⟨U.elim id λh=>⟨⟨by omega,λe=>by have:=(X.2.2.2.2.1.st.lt e.symm).2;omega⟩,X.2.2.2.2.1.pl.far h⟩,M,rfl⟩
          refine qZ (f:=f) (k:=9) (C:=false) (o:=t*4) rfl (by kernel_rfl) (by kernel_rfl) (λ_ _ _ _ _ h=>h) rfl rfl rfl rfl rfl (aT hr F) kz (ah.len nd) (CK.one (P:=Hy d) ⟨rfl,r⟩) (by omega) (by have:=F.size;omega) (bc F pc) ((zJy (F.block gp r3)).trans s1) (λe=>own_ne hr X.2.2.2.1 (by decide) |>.elim (λh=>by rw[<-e]at h;cases h) λh=>h (e.symm.trans X.2.2.1.symm)) ?_;intro g9 c9 w8 w9 _ PZ a6 KC fV _;have an:=zH ((X.2.2.2.2.1.old F).zAh (X.2.2.2.2.2.2.trans (F.mono (by omega))) (X.2.2.2.2.2.1.old F) (C:=false) (by have:=F.size;omega) (by omega) (by omega) HP.2.1 a9.out al HT.out X.1 X.2.1 (λh=>absurd h (by decide)) X.2.2.1 r a7.1 a7.2 rfl KC PZ fV a6);clear PZ a6 KC fV hr pc kz kn;simp only[Act.put,zFf,zFw,zFx];go_wp2_with fail
          exact⟨⟨x+1,aa,by go_num,an⟩,by simp[intOf];omega⟩
         have kn:=HX.2.2.2.2;have D:=HX.2.2.1;have r:=D.st;have O:Hid (∀o,Hy d (λq=>(B<=q/\aJ (.slice (some ⟨g,0,none⟩) n a) XE q)/\some q≠(Value.slice As sl a1).ownBlock) nl[x] cs (wc.alloc o)):=zH λo=>⟨J.symm,(HX.2.2.2.1.keep λq U M=>⟨⟨⟨U.1.1,U.2⟩,U.1.2⟩,M,rfl⟩).keep (dB.old (ba _ o))⟩
         have F:ss.length<=1000000000000:=by have:=D.sl;omega
         go_wp2_with (first|(refine aj dR rfl _ rfl rfl cs Z (nd0 kn) ?_)|(refine dC dR rfl _ rfl cs rfl Z ?_)|(at_builtin;refine bu dR rfl _ _ rfl rfl (r.old (ba _ _)) rfl cs (Bk.new _ _ _) nl[x] (O.out _) F (by simp;omega) ?_;intro A9 c9 w9 h9 lJ fV sH;rw[bt.out]at h9 sH⊢))
         have fV:(wc.alloc (.cells cs.toArray 122)).grownBy w9 (Value.slice As sl a1).ownBlock:=fV;have a6:Qm _ B d _ H N k pos y C (x+1) P _ nl _ _ XE w9:=⟨(D.toDW.old (ba _ (.cells cs.toArray 122))).stay h9 fV sH,D.sh,D.mi.x1⟩
         obtain⟨_,_,L,_⟩:=r.old (ba wc (.cells cs.toArray 122));exact⟨⟨x+1,aa,by go_num,zH ⟨lJ B W zL (by simp;omega) (HX.1.alloc (by omega) _),(HX.2.1.old (ba _ _)).row L fV,_,_,a6⟩⟩,by simp[intOf];omega⟩
        obtain rfl:nn=x:=by omega
        obtain⟨b3,p3,A,G,I⟩:=nN.out XE D.sh y ao;obtain⟨L,O,_,_⟩:=D.pl.DX A G I C;have a0:=D.pl.prt _ (zGj A);have Q:b3.parts.ownBlock=some gp:=by rw[I];rfl
        have b5:=(a0.lt gp Q).1
        have F:=D.fin (λq h=>h) b0 HP.2.1 a9.out (HF.out XE D.sh) (gp:=gp) λb h=>by
         rw[A]at h;injection h with h
         rw[<-h];exact Q
        have r:=zH (zA (zA (ad.setCell (p:=⟨gp,y*4+ve C,none⟩) b5 (.slice As sl a1)) F) (OE.set (i:=y*4+ve C) (v:=.slice As sl a1) a0 Q));have kb:=OE.2.2.1.cell 2;clear D A G I a0 Q F ad OE;cases C
        ·obtain rfl:0=b7:=b6.out;have L:wl.cell? ⟨gp,y*4+2,none⟩=_:=L;have O:wl.frozen? ⟨gp,y*4+2,none⟩=false:=O;go_wp2_with fail
         go_roundw
         case rel=>exact⟨1,by decide,by go_num,zH ⟨⟨r.1.1,_,r.1.2⟩,r.2⟩⟩
         case measure=>simp[intOf]
        obtain rfl:1=b7:=b6.out;have L:wl.cell? ⟨gp,y*4+3,none⟩=_:=L;have O:wl.frozen? ⟨gp,y*4+3,none⟩=false:=O;go_wp2_with fail
        go_roundw
        case rel=>exact⟨2,by decide,by go_num,zH ⟨⟨r.1.1,_,r.1.2⟩,r.2⟩⟩
        case measure=>simp[intOf]
      obtain rfl:kk=2:=by omega
      go_wp2_with fail
      go_roundw
      case rel=>exact⟨pos+1,a3,by go_num,zH ⟨⟨Y.1.1,Y.1.2.imp λxs h=>⟨h.1,h.2.1,IB.next (x:=0) h.2.2⟩⟩,Y.2⟩⟩
      case measure=>simp[intOf];omega
    obtain rfl:m=pos:=by omega
    go_wp2_with fail
    go_roundw
    case rel=>exact⟨k+1,M,by go_num,zH ⟨hJ.1.1,by omega,hJ.2.2.1,by
     obtain⟨_,af,h1,h2,h3⟩:=hJ.1
     exact⟨af,h1,h2,h3.all,λj b hj hb=>h3.nxt j b (by omega) hb⟩⟩⟩
    case measure=>simp[intOf];omega
  obtain rfl:k=n:=by omega
  obtain⟨xs,jy,a5,rY,_⟩:=hI.2.2.2;have kk:=HW.2.1.below (B:=B) hI.1 (by omega);have HF:=zH (zA jy (zA a5 rY));clear jy a5 rY;go_wp2_with (first|(refine aV aP eF rfl (.tmp 3) rfl rfl [.int .i64 ax,.slice qm ks.length E,.slice zD k a] rfl (λj u hu=>by rw[zFr,hI.2.2.1.cell j];simpa using hu) ?_)|(refine ae aP rfl _ _ rfl rfl [.int .i64 ax,.slice qm ks.length E,.slice zD k a] rfl kk rfl rfl rfl ?_;intro V p))
  obtain⟨d0,d1,d2⟩:=zc3 p.bk;have r:Below w.heap.size w wo:=HW.1.trans (hI.1.mono (by omega));have a8:Sl gK (λq=>w0.heap.size<=q/\q<B) ks (.slice qm ks.length E) V:=(HW.2.2.2.1.keep (S':=λq=>w0.heap.size<=q/\q<B) λb hb M=>⟨hb,by omega,hI.1.block b hb.2⟩).keep (dB.fE p λb hb=>by omega);have a3:=(HF.1.grown p.grown (by omega)).plan (ax:=ax) (S':=λq=>w.heap.size<=q) a8 (λq U=>by omega) (λq U=>by omega) (.of (by rw[qM.1];exact HG.out) HF.2.1 HF.2.2) hN;exact zFg (v:=.agg #[ax,.slice qm ks.length E,.slice zD k a]) (by simp[results,results20,go_sem,d0,d1,d2]) rfl ⟨[_,_,_],_,rfl,a3,.of (by rw[qM.1];exact HG.out) HF.2.1 HF.2.2,p.below _ _ r (by omega)⟩
end Go.Proofs.YtbjnhllkdilpfaaGreat
