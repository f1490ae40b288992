/- Part 48 of the proof. No conditions. -/
import Derived.Test.YtbjnhllkdilpfaaGreatZf47
set_option linter.unusedVariables false
set_option linter.unusedSimpArgs false
set_option maxRecDepth 100000
set_option maxHeartbeats 8000000
namespace Go.Proofs.YtbjnhllkdilpfaaGreat
open Go.RowKit _root_.Go.Proofs.Tryz
theorem zDj {d N:Nat} {S:Nat->Prop} {ax:Int} {ks:List Int} {bs:List dL} {cs:List Value} {w:World} (h:dO d S ax ks bs cs w) (hG:qy N bs) (hN:N<=1048576):Calls prog 21 #[.agg cs.toArray] w (Ol d N ax ks w):=by
 have hp:=h;obtain⟨kv,bv,rfl,hk,hb⟩:=h;obtain⟨Ak,ck,rfl⟩:=hk.form;obtain⟨Ab,cb,rfl⟩:=hb.form;clear hk hb
 go_enter func21,ntmps21
 go_upto_region 1 with fail
 have C:=(Bk.new w 29 #[ax,.slice Ak ks.length ck,.slice Ab bs.length cb]).alloc (.cells #[(),"",""] 29);have k2:=Bk.newAt (w:=w.alloc (.cells #[ax,.slice Ak ks.length ck,.slice Ab bs.length cb] 29)) (g:=w.heap.size+1) (by simp) 29 #[(),"",""];have f:=bel2 w (.cells #[ax,.slice Ak ks.length ck,.slice Ab bs.length cb] 29) (.cells #[(),"",""] 29);generalize(w.alloc (.cells #[ax,.slice Ak ks.length ck,.slice Ab bs.length cb] 29)).alloc (.cells #[(),"",""] 29)=w0 at *;have A:=zH (Qb (hp.old f));have HG:=zH hG;have Tm:=k2.lt;clear hp hG;go_wp2_with (refine aV aP eF rfl (.tmp 1) rfl rfl [.int .i64 ax,.slice Ak ks.length ck,.slice Ab bs.length cb] rfl (λj u hu=>by rw[zFr,C.cell j];simpa using hu) ?_)
 refine A.mono ?_;rintro e w2 ⟨kv,bv,jq,B,rfl,r,ch,co,a,jy,l⟩;obtain⟨qm,L,rfl⟩:=a.form;obtain⟨zD,I,rfl,_⟩:=aK jy.dJ;obtain⟨n,z⟩:=zN jq.length
 rw[z]at jy⊢;have Bj:=zH z;have k2:=k2.old l;have t:=zH (f.trans (l.mono f.size));have qM:=zH (zA r (zA a jy));have c7:=l.size;clear r a jy l f C A z;go_upto_region 2 with(refine ae aP rfl _ _ rfl rfl [.int .i64 ax,.slice qm ks.length L,.slice zD n I] rfl (Bk.new _ _ _) rfl rfl rfl ?_;intro W p;go_frame)
 have l:Below w2 w2 W:=p.below _ _ (ba _ _) zL;have f:W.heap.size=w2.heap.size+1:=by rw[p.size];simp
 have x2:=p.bk.cell 2;have z:=p.bk.frozen 2;go_upto_region 4 with fail
 have r:=p.bk.put 2 (.slice none 0 0);have a:Below w2 w2 (W.setCell ⟨w2.heap.size,2,none⟩ (.slice none 0 0)):=l.setCell zL _;have ci:(W.setCell ⟨w2.heap.size,2,none⟩ (.slice none 0 0)).heap.size=w2.heap.size+1:=by simpa using f
 generalize W.setCell ⟨w2.heap.size,2,none⟩ (.slice none 0 0)=W0 at *;have HW:=zH (zA (t.trans (a.mono t.size)) (zA (k2.old a) (zA r (zA (qM.2.1.keep (.old a)) (qM.2.2.s.old a)))));clear p l a k2 r x2 z t f;have bj:n<=4:=by have:=HG.nb;rw[<-qM.1]at this;simpa[Bj.out]using this
 have zW:Hid (Gx N jq):=zH (.of (by rw[qM.1];exact HG.out));go_wp2_with fail
 go_loopw[22] (λi wr=>∃(k:Nat) (v:Value),k<=n/\i=.int .i64 k/\Hid (Below B W0 wr/\W0.heap.size<=wr.heap.size/\Bk wr w2.heap.size 29 #[ax,.slice qm ks.length L,v]/\∃xs ys,qw (λq=>B<=q/\q<w2.heap.size) B d (.slice zD n I) xs wr/\mX xs=mX jq/\Gx N xs/\Bd (λ_=>False) W0.heap.size 67 3 BvP ys v wr/\(∀q,v.ownBlock=some q->aJ (.slice zD n I) xs q)/\F9 k xs ys)) (λi _=>n-(intOf i).toNat)
 case atStart=>exact⟨0,_,zFj _,rfl,zH ⟨zGp _ _,zFv _,HW.2.2.1,jq,[],HW.2.2.2.2,rfl,zW.out,Bd.nil zL,λq a=>by simp[Value.ownBlock]at a,⟨by simp,λy f=>absurd f (by simp)⟩⟩⟩
 case round=>
  obtain⟨k,v,hk,rfl,hI⟩:=hrel;obtain⟨wo,rfl⟩:∃z:World,z=wr:=⟨_,rfl⟩
  obtain⟨Qk,Nb,ak,xs,ys,a0,U,rY,t,al,WJ⟩:=hI.out;obtain⟨X,Z,rfl,_⟩:=t.form;obtain⟨K,f⟩:=zN ys.length
  rw[f]at hI t al ak;have bt:=zH f;clear f
  by_cases F:k<n
  ·have a9:qy N (xs.map (fJ d)):=.of (by rw[qM.1];exact HG.out) U rY;have r:k<xs.length:=by rw[yz U,Bj.out];exact F
   have Y5:B<=wo.heap.size:=by omega
   have jy:=a0.m λq a=>a.1
   obtain⟨g,cs,f,ca,cm,⟨rfl,_⟩,hc⟩:=(jy.bd (S:=λ_=>True)).elem r;subst f;obtain⟨np,G⟩:=zN (xs[k].ps.length)
   have a4:=(a9.sg _ (zGa.2 ⟨xs[k],zFe r,rfl⟩)).1;have bw:=a9.ps (zGa.2 ⟨xs[k],zFe r,rfl⟩);simp only[fJ,KP,zF5,G]at bw a4;obtain⟨f,rfl⟩:∃z,np=z+1:=⟨np-1,by omega⟩
   have c6:f<8:=by omega
   have R:=a0.prt _ (zFe r);obtain⟨gp,l,C,b4,c5,E,H,cc⟩:=a0.part r (i:=f) (by omega);rw[G]at C
   have M:xh d (λq=>B<=q) (fJ d xs[k]) xs[k].cells wo:=jy.brS (λz hz=>by
    obtain⟨b,hb,hz⟩:=zGn.1 hz;obtain⟨p,hp,hz⟩:=zGn.1 hz;obtain⟨h1,A,_⟩:=rY b hb p hp;simp only[dQ,zF6,zGi,zHt]at hz;rcases hz with rfl|rfl
    ·exact zFi h1 hN
    exact zFi A hN) (λq h=>h) (zFe r) (by rw[G];omega)
   have a3:xs[k].cells=[.int .i64 xs[k].id,.int .i64 xs[k].window,.slice (some ⟨gp,0,none⟩) (f+1) l]:=by unfold bQ.cells;rw[C]
   rw[a3]at hc M;obtain⟨kL,O⟩:∃z:Nat,xs[k].id=z:=⟨_,rfl⟩
   obtain⟨win,A⟩:=zN (xs[k].window)
   rw[O,A]at hc M;rw[A]at a4;go_upto_region 7 with(first|(refine aj gW rfl _ rfl rfl [.int .i64 kL,.int .i64 win,.slice (some ⟨gp,0,none⟩) (f+1) l] rfl hc ?_)|(refine ae (aY gW.1) rfl _ _ rfl rfl [.int .i64 kL,.int .i64 win,.slice (some ⟨gp,0,none⟩) (f+1) l] rfl (Bk.new _ _ _) rfl rfl rfl ?_;intro W1 p1;go_frame))
   have D:Below wo wo W1:=p1.below _ _ (ba _ _) zL;have cn:W1.heap.size=wo.heap.size+1:=by rw[p1.size];simp
   have Q:=zH (Ia (CK.keep (dB.old D) M));have tZ:=zH (zA p1.bk D);have Ee:=zH (zA G (zA C (zA O A)));have J:=zH (zA a0 (zA U (zA rY (zA t (zA al (zA WJ ak))))));clear E;clear p1 hc a3 D M a0 U rY t al WJ ak jy a9 R H C G O A;go_wp2_with (refine aj gW rfl _ rfl rfl [.int .i64 kL,.int .i64 win,.slice (some ⟨gp,0,none⟩) (f+1) l] rfl (λi v hv=>by rw[zFr,tZ.1.cell i];simpa using hv) ?_)
   refine Q.mono ?_;rintro e V2 ⟨Aq,cq,rfl,a,A⟩;obtain⟨P,H⟩:=zN (jf 0 (fJ d xs[k]).ps)
   have C:∀z∈P,z<f+1:=λz hz=>by
    have:=(uP _ _ z (H▸hz)).2;simp[fJ,Ee.1]at this;omega
   rw[H]at a⊢;obtain⟨m,G⟩:=zN P.length
   have D:(ints P).length=m:=by simp[ints,G]
   rw[D]at a⊢;have HP:=zH (zA C G);have cj:=A.size;have b9:=tZ.2.trans (A.mono tZ.2.size);have E:=zH (zA (Qk.trans (b9.mono Y5)) (zA (tZ.1.old A) (zA a b9)));have kb:=E.2.1.cell 2;clear C H D a A G Q Qk;have am:f<xs[k].ps.length:=by rw[Ee.1];omega
   obtain⟨pe,A⟩:∃z,xs[k].ps[f]? =some z:=⟨_,zAg am⟩
   have C:xs[k]? =some xs[k]:=zAg r;obtain⟨r0,H,r2,G⟩:=(J.1.old E.2.2.2).DX C A Ee.2.1 false;have r0:V2.cell? ⟨gp,f*4+2,none⟩=some pe.g:=r0;have Xq:=zH A;clear A C;go_upto_region 10 with fail
   go_cut[43] (λv wx=>∃z:Bool,v=.bool z/\(z=true->2<=m)/\wx=V2)
   case first=>
    by_cases a6:2<=m
    ·by_cases C:pe.form=3
     ·rw[C]at r2;go_wp2_with fail
      go_meet
      exact⟨_,rfl,λ_=>a6,rfl⟩
     have A:((pe.form:Int) !=3)=true:=by rw[zG1];omega
     go_wp2_with fail
     go_meet
     exact⟨_,rfl,λ_=>a6,rfl⟩
    go_wp2_with fail
    go_meet
    exact⟨_,rfl,λh=>absurd h (by decide),rfl⟩
   case rest=>
   obtain⟨z1,rfl,b7,D⟩:=hcut;obtain rfl:V2=wc:=D.symm;clear H G;have A:Tn V2.heap.size w2.heap.size wo.heap.size W0.heap.size #[ax,.slice qm ks.length L,.slice X K Z] #[kL,win,.slice (some ⟨gp,0,none⟩) (f+1) l] ys (.slice X K Z) V2:=⟨zFv _,J.2.2.2.2.2.2.old E.2.2.2,E.2.1,J.2.2.2.1.old E.2.2.2⟩
   have b5:=zH A;clear A;go_upto_if 43 with fail
   go_cut[9] (λv wx=>∃(kp:Bool) (wi:Int),v=.bool kp/\Hid ((kp=true->0<=wi)/\wi<=1152921504606846976/\Below B W0 wx/\Tn V2.heap.size w2.heap.size wo.heap.size W0.heap.size #[ax,.slice qm ks.length L,.slice X K Z] #[kL,wi,.slice (some ⟨gp,0,none⟩) (f+1) l] ys (.slice X K Z) wx/\∃Ij,qw (λq=>B<=q/\q<w2.heap.size) B d (.slice (some ⟨g,0,none⟩) n I) Ij wx/\mX Ij=mX jq/\Gx N Ij/\(∀q,(Value.slice X K Z).ownBlock=some q->aJ (.slice (some ⟨g,0,none⟩) n I) Ij q)/\F9 k Ij ys))
   case first=>
    cases z1
    ·go_wp2_with fail
     go_meet
     exact⟨true,win,rfl,zH ⟨λ_=>a4.1,a4.2,E.1,b5.out,xs,J.1.old E.2.2.2,J.2.1,J.2.2.1,J.2.2.2.2.1,J.2.2.2.2.2.1⟩⟩
    as_aux_lemma=>
    have a6:=b7 rfl;have an:0<P.length:=by rw[HP.2];omega
    obtain⟨t0,A⟩:=zN (P[0])
    have bq:t0<f+1:=A▸HP.1 _ (zFe an);obtain⟨gI,cg,rfl,_,_,rfl,G⟩:=E.2.2.1.elem (k:=0) (by simp[ints];exact an)
    have H:V2.cell? ⟨gI,0,none⟩=some (.int .i64 (t0:Nat)):=by
     have:=G 0 _ rfl
     simpa[ints,A]using this
    have c2:t0<xs[k].ps.length:=by rw[Ee.1];exact bq
    obtain⟨_,_,M,_⟩:=(J.1.old E.2.2.2).DX (zAg r) (zAg c2) Ee.2.1 false;obtain⟨fb,C⟩:∃z:Nat,xs[k].ps[t0].form=z:=⟨_,rfl⟩
    rw[C]at M;clear G A C r2 b7;go_upto_region 12 with fail
    go_quiet (fail)
    have A:Below V2 V2 (V2.drewN nq):=zHf zR nq;obtain⟨W5,G⟩:=zN (V2.drewN nq)
    rw[G]at A⊢;obtain⟨fc,C⟩:=zN ((fb:Int)==2)
    rw[C];have UZ:=zH A;clear G A C M H;go_upto_if 52 with fail
    go_cut[10] (λv wx=>∃fo:Int,v=.int .i64 fo/\wx=W5)
    case first=>
     cases fc
     ·go_wp2_with fail
      go_meet
      exact⟨_,rfl,rfl⟩
     go_wp2_with fail
     go_meet
     exact⟨_,rfl,rfl⟩
    case rest=>
    obtain⟨fo,rfl,D⟩:=hcut;obtain rfl:W5=wc:=D.symm;have H:=(J.1.old E.2.2.2).old UZ.out;have C:=b5.old UZ.out;have cd:=UZ.size;obtain⟨r5,_,_,_⟩:=H.DX (zAg r) Xq.out Ee.2.1 false;have G:DW (λq=>B<=q/\q<w2.heap.size) B d (.slice (some ⟨g,0,none⟩) n I) k f false 0 pe.g pe.gs (.slice none 0 0) [] xs W5:=.start H ⟨_,pe,zAg r,Xq.out,rfl⟩ (by omega);obtain⟨Al,cl,SH,_⟩:=aK (H.mO _ G.mem);have SH:pe.g=.slice Al pe.gs.length cl:=SH;have b3:pe.gs.length<=N:=(J.2.2.1 _ (zFe r) _ (zGj Xq.out)).1;obtain⟨nl,M⟩:=zN pe.gs
    simp only[M]at b3 SH G;obtain⟨nn,A⟩:=zN nl.length
    rw[A]at b3 SH;rw[SH]at G;have r5:W5.cell? ⟨gp,f*4+2,none⟩=some pe.g:=r5;rw[SH]at r5;have Y7:=C.2.2.1.cell 2;have aw:=zH (zA G (zA C (E.1.trans (UZ.mono (by omega)))));have yS:=zH A;clear G SH M A H C r0 kb;go_upto_region 16 with fail
    go_loopw[9,11,60] (λC A i wr=>∃(kp:Bool) (x:Nat) (wi:Int),x<=nn/\C=.bool kp/\i=.int .i64 x/\Hid ((kp=true->0<=wi)/\wi<=1152921504606846976/\Below B W0 wr/\Tn V2.heap.size w2.heap.size wo.heap.size W0.heap.size #[ax,.slice qm ks.length L,.slice X K Z] #[kL,wi,.slice (some ⟨gp,0,none⟩) (f+1) l] ys (.slice X K Z) wr/\∃ss,DW (λq=>B<=q/\q<w2.heap.size) B d (.slice (some ⟨g,0,none⟩) n I) k f false x (.slice Al nn cl) nl A ss xs wr)) (λ_ _ i _=>nn-(intOf i).toNat)
    case atStart=>exact⟨true,0,win,zFj _,rfl,rfl,zH ⟨λ_=>a4.1,a4.2,aw.2.2,aw.2.1,_,aw.1⟩⟩
    case round=>
     obtain⟨kp,x,wi,hx,rfl,rfl,hL⟩:=hrel;obtain⟨wl,rfl⟩:∃z:World,z=wr:=⟨_,rfl⟩
     obtain⟨aq,ab,b0,OE,ss,G⟩:=hL.out;obtain⟨As,H,A,_⟩:=G.st.form;subst A;obtain⟨sl,a5⟩:=zN ss.length
     rw[a5]at G hL⊢;have c4:=zH a5;clear a5
     by_cases ag:x<nn
     ·as_aux_lemma=>
      have bl:x<nl.length:=by rw[yS.out];exact ag
      obtain⟨gv,c8,A,hc,Q⟩:=G.elem bl;rw[yS.out]at A;injection A with A _ e3
      subst A e3;obtain⟨op,kind,A,c,ao,vk,vb,po,WL,R,cf,bh,C⟩:=Q.arg;have a3:nl[x].cells=[.int .i64 op,.int .i64 kind,.slice A ao.length c,.int .i64 vk,.int .u64 vb,.int .i64 po,.int .i64 WL]:=by rw[R];rfl
      rw[a3]at hc;obtain⟨la,O⟩:=zN ao.length
      rw[O]at hc a3 bh;have M:=zH (zA O C);have ZZ:=zH (zA a3 Q);clear O C R Q a3;go_upto_region 18 with(first|(refine aj dR rfl _ rfl rfl [.int .i64 op,.int .i64 kind,.slice A la c,.int .i64 vk,.int .u64 vb,.int .i64 po,.int .i64 WL] rfl hc ?_)|(refine ae (aY dR.1) rfl _ _ rfl rfl [.int .i64 op,.int .i64 kind,.slice A la c,.int .i64 vk,.int .u64 vb,.int .i64 po,.int .i64 WL] rfl (Bk.new _ _ _) rfl rfl rfl ?_;intro W6 O;go_frame))
      have yV:Below wl wl W6:=O.below _ _ (ba _ _) zL;have C:=O.bk;have x0:=C.cell 0;have x2:=C.cell 2;have XG:=zH (zA yV C);clear O hc C
      go_cut[145] (λv wx=>∃z:Bool,v=.bool z/\(z=false->la=2)/\Hid (Below wl wl wx/\Bk wx wl.heap.size 122 #[op,kind,.slice A la c,vk,.int .u64 vb,po,WL]))
      case first=>
       as_aux_lemma=>
       rcases(by omega:(op≠10/\op≠9)\/(op=10\/op=9))with⟨ce,Y⟩|a2
       ·go_wp2_with fail
        go_meet
        exact⟨_,rfl,λh=>absurd h (by decide),XG⟩
       by_cases ab:la=2
       ·subst ab;obtain⟨ga,oa,rfl,⟨da,a8⟩,aa⟩:=M.2 0 (by rw[M.1];decide);obtain⟨_,_,Q,⟨db,a1⟩,O⟩:=M.2 1 (by rw[M.1];decide);injection Q with Q
        injection Q with Q e3
        subst Q e3;obtain⟨b6,_,A0,c0,b8,_,_,_,_,ad,_,_,C⟩:=a8.arg;obtain⟨b1,_,_,_,_,ap,av,_,_,af,_⟩:=a1.arg;rw[ad]at aa;rw[af]at O;have y0:W6.cell? ⟨ga,oa,none⟩=some (.int .i64 b6):=bc yV (by simpa using aa 0 _ rfl);have y2:W6.cell? ⟨ga,oa+2,none⟩=some (.slice A0 b8.length c0):=bc yV (by simpa using aa 2 _ rfl);have u0:W6.cell? ⟨ga,oa+7,none⟩=some (.int .i64 b1):=bc yV (by simpa using O 0 _ rfl);have u3:W6.cell? ⟨ga,oa+7+3,none⟩=some (.int .i64 ap):=bc yV (by simpa using O 3 _ rfl);obtain⟨lb,a7⟩:=zN b8.length
        rw[a7]at y2;have R:=zH (zA a7 (zA C yV));clear aa O a8 a1 ad af a7 C yV
        by_cases h0:b6=2
        ·subst h0
         by_cases bm:lb=2
         ·subst bm;obtain⟨g3,o3,rfl,⟨dc,bb⟩,a7⟩:=R.2.1 0 (by rw[R.1];decide);obtain⟨_,_,Q,⟨dd,ad⟩,C⟩:=R.2.1 1 (by rw[R.1];decide);injection Q with Q
          injection Q with Q e3
          subst Q e3;obtain⟨AZ,_,_,_,_,_,_,_,b2,a6,_⟩:=bb.arg;obtain⟨br,bx,A3,c3,be,bi,bo,bp,c1,a8,_⟩:=ad.arg;rw[a6]at a7;rw[a8]at C;have v0:W6.cell? ⟨g3,o3,none⟩=some (.int .i64 AZ):=bc R.2.2 (by simpa using a7 0 _ rfl);have v6:W6.cell? ⟨g3,o3+6,none⟩=some (.int .i64 b2):=bc R.2.2 (by simpa using a7 6 _ rfl);obtain⟨l3,ar⟩:=zN be.length
          have t0:W6.cell? ⟨g3,o3+7,none⟩=some (.int .i64 br):=bc R.2.2 (by simpa using C 0 _ rfl);have t1:W6.cell? ⟨g3,o3+7+1,none⟩=some (.int .i64 bx):=bc R.2.2 (by simpa using C 1 _ rfl);have t2:W6.cell? ⟨g3,o3+7+2,none⟩=some (.slice A3 be.length c3):=bc R.2.2 (by simpa using C 2 _ rfl);have t3:W6.cell? ⟨g3,o3+7+3,none⟩=some (.int .i64 bi):=bc R.2.2 (by simpa using C 3 _ rfl);have t4:W6.cell? ⟨g3,o3+7+4,none⟩=some (.int .u64 bo):=bc R.2.2 (by simpa using C 4 _ rfl);have t5:W6.cell? ⟨g3,o3+7+5,none⟩=some (.int .i64 bp):=bc R.2.2 (by simpa using C 5 _ rfl);have t6:W6.cell? ⟨g3,o3+7+6,none⟩=some (.int .i64 c1):=bc R.2.2 (by simpa using C 6 _ rfl);rw[ar]at t2;clear a7 C bb ad a6 a8 ar
          by_cases ad:AZ=41
          ·subst ad
           by_cases ar:b2= -1
           ·subst ar;rcases a2 with rfl|rfl
            all_goals
             go_wp2_with fail
             refine(zDf _ _ _ _ _ _ _ _ _ _ _).mono ?_;rintro e W7 ⟨tb,rfl,C⟩;have a7:=zH (zA (XG.1.trans (C.mono XG.1.size)) (XG.2.old C));have x2:=a7.2.cell 2;have u0:=bc C u0;have u3:=bc C u3;clear C;cases tb
             ·go_wp2_with fail
              go_meet
              exact⟨_,rfl,λ_=>trivial,a7⟩
             by_cases Xn:b1=40
             ·subst Xn
              by_cases a8:ap=1
              ·subst a8;go_wp2_with fail
               go_meet
               exact⟨_,rfl,λ_=>trivial,a7⟩
              go_wp2_with fail
              go_meet
              exact⟨_,rfl,λ_=>trivial,a7⟩
             go_wp2_with fail
             go_meet
             exact⟨_,rfl,λ_=>trivial,a7⟩
           
           rcases a2 with rfl|rfl
           all_goals
            go_wp2_with fail
            go_meet
            exact⟨_,rfl,λ_=>trivial,XG⟩
          
          rcases a2 with rfl|rfl
          all_goals
           go_wp2_with fail
           go_meet
           exact⟨_,rfl,λ_=>trivial,XG⟩
         
         rcases a2 with rfl|rfl
         all_goals
          go_wp2_with fail
          go_meet
          exact⟨_,rfl,λ_=>trivial,XG⟩
        
        rcases a2 with rfl|rfl
        all_goals
         go_wp2_with fail
         go_meet
         exact⟨_,rfl,λ_=>trivial,XG⟩
       
       rcases a2 with rfl|rfl
       all_goals
        go_wp2_with fail
        go_meet
        exact⟨_,rfl,λh=>absurd h (by decide),XG⟩
      case rest=>
      obtain⟨z,rfl,hz,hX⟩:=hcut;obtain⟨W7,rfl⟩:∃z:World,z=wc:=⟨_,rfl⟩
      have C:=hX.1;have kn:=hX.2;have ad:=G.old C;have R:=OE.old C;have Qh:=b0.trans (C.mono (by have:=OE.1;omega));have bx:=R.1;have br:=UZ.size;clear x0 x2 XG yV;cases z
      ·as_aux_lemma=>
       have a2:la=2:=hz rfl;subst a2;obtain⟨ga,oa,rfl,_,aa⟩:=M.2 0 (by rw[M.1];decide);obtain⟨_,_,Q,⟨db,a1⟩,O⟩:=M.2 1 (by rw[M.1];decide);injection Q with Q
       injection Q with Q e3
       subst Q e3;obtain⟨b1,_,_,_,_,ap,av,_,_,af,bm,_⟩:=a1.arg;rw[af]at O;have u4:W7.cell? ⟨ga,oa+7+4,none⟩=some (.int .u64 av):=bc C (by simpa using O 4 _ rfl);have x0:=kn.cell 0;have x2:=kn.cell 2;have a2:=zH (zA ad.left (zA R Qh));clear aa O a1 af ad R Qh;go_upto_region 21 with fail
       obtain⟨kq,a7⟩:=zN (wrap64 (av:Int))
       rw[a7];have bp: -9223372036854775808<=kq/\kq<=9223372036854775807:=by rw[<-a7];unfold wrap64;omega
       clear a7 u4
       go_cut[167] (λv wx=>∃q:Bool,v=.bool q/\(q=false->0<=kq/\(op=9->1<=kq))/\wx=W7)
       case first=>
        as_aux_lemma=>
        by_cases h0:kq<0
        ·go_wp2_with fail
         go_meet
         exact⟨_,rfl,λh=>absurd h (by decide),rfl⟩
        by_cases Y:op=9
        ·subst Y
         by_cases h1:kq<1
         ·go_wp2_with fail
          go_meet
          exact⟨_,rfl,λh=>absurd h (by decide),rfl⟩
         go_wp2_with fail
         go_meet
         exact⟨_,rfl,λ_=>⟨by omega,λ_=>by omega⟩,rfl⟩
        have ar:(op==9)=false:=by rw[zFz];exact Y
        go_wp2_with fail
        go_meet
        exact⟨_,rfl,λ_=>⟨by omega,λh=>absurd h Y⟩,rfl⟩
       case rest=>
       obtain⟨q,rfl,a,D⟩:=hcut;obtain rfl:W7=wc:=D.symm;go_upto_if 167 with fail
       go_cut[9] (λv wx=>∃a7:Bool,v=.bool a7/\(a7=true->kp=true/\0<=kq/\(op=9->1<=kq))/\wx=W7)
       case first=>
        as_aux_lemma=>
        cases q
        ·have a8:=zH (a rfl);clear a;go_wp2_with fail
         go_meet
         exact⟨kp,rfl,λh=>⟨h,a8.out⟩,rfl⟩
        go_wp2_with fail
        go_meet
        exact⟨_,rfl,λh=>absurd h (by decide),rfl⟩
       case rest=>
       obtain⟨a7,rfl,b2,D⟩:=hcut;obtain rfl:W7=wc:=D.symm;go_upto_region 23 with fail
       go_cut[174] (λv wx=>∃q:Bool,v=.bool q/\(q=true->op=9/\ -9223372036854775808<kq)/\wx=W7)
       case first=>
        as_aux_lemma=>
        by_cases Y:op=9
        ·subst Y
         by_cases h1: -9223372036854775808<kq
         ·go_wp2_with fail
          go_meet
          exact⟨_,rfl,λ_=>⟨trivial,h1⟩,rfl⟩
         go_wp2_with fail
         go_meet
         exact⟨_,rfl,λh=>absurd h (by decide),rfl⟩
        have ar:(op==9)=false:=by rw[zFz];exact Y
        go_wp2_with fail
        go_meet
        exact⟨_,rfl,λh=>absurd h (by decide),rfl⟩
       case rest=>
       obtain⟨q3,rfl,be,D⟩:=hcut;obtain rfl:W7=wc:=D.symm;go_upto_if 174 with fail
       go_cut[14] (λv wx=>∃kr:Int,v=.int .i64 kr/\(a7=true->0<=kr)/\wx=W7)
       case first=>
        as_aux_lemma=>
        cases q3
        ·go_wp2_with fail
         go_meet
         exact⟨_,rfl,λh=>(b2 h).2.1,rfl⟩
        obtain⟨Y,h1⟩:=be rfl;have hw:wrap64 (kq-1)=kq-1:=by unfold wrap64;omega
        go_wp2_with fail
        go_meet
        exact⟨kq-1,rfl,λh=>by have:=(b2 h).2.2 Y;omega,rfl⟩
       case rest=>
       obtain⟨kr,rfl,b8,D⟩:=hcut;obtain rfl:W7=wc:=D.symm;have R:=a2.2.1;have kb:=R.2.2.1;have x1:=kb.cell 1;have f1:=kb.frozen 1;go_upto_region 25 with fail
       by_cases bo:kr<wi
       ·as_aux_lemma=>
        have ar:aJ (.slice (some ⟨g,0,none⟩) n I) xs wo.heap.size:=J.1.far zL
        have bb:(Value.slice As sl H).ownBlock≠some wo.heap.size:=λe=>by
         obtain⟨_,_,a8,_⟩:=a2.1.st;exact aN a8 kb (by decide) e.symm
        have b6:(Value.slice X K Z).ownBlock≠some wo.heap.size:=λe=>by
         have:=(J.2.2.2.1.lt e).2;omega
        have HE:=zH (zA (a2.1.set (j:=1) (u:=.int .i64 kr) ar (λh=>by omega) bb) (zA (R.win b6 (by omega) (.int .i64 kr)) (a2.2.2.setCell (p:=⟨wo.heap.size,1,none⟩) (by show B<=wo.heap.size;omega) (.int .i64 kr))));clear ar bb b6 R;go_wp2_with fail
        exact⟨⟨a7,x+1,kr,ag,rfl,by go_num,zH ⟨b8,by omega,HE.2.2,HE.2.1,_,HE.1⟩⟩,by simp[intOf];omega⟩
       go_wp2_with fail
       exact⟨⟨a7,x+1,wi,ag,rfl,by go_num,zH ⟨λh=>aq (b2 h).1,ab,a2.2.2,a2.2.1,_,a2.1⟩⟩,by simp[intOf];omega⟩
      as_aux_lemma=>
      have b6:=ad.st;have bb:Hid (∀o,Hy d (λq=>((B<=q/\q<w2.heap.size)/\aJ (.slice (some ⟨g,0,none⟩) n I) xs q)/\some q≠(Value.slice As sl H).ownBlock) nl[x] [.int .i64 op,.int .i64 kind,.slice A la c,.int .i64 vk,.int .u64 vb,.int .i64 po,.int .i64 WL] (W7.alloc o)):=zH λo=>⟨ZZ.1.symm,((ZZ.2.keep (dB.old C)).keep λq a F=>⟨⟨⟨a.1.1,a.2⟩,a.1.2⟩,F,rfl⟩).keep (dB.old (ba _ o))⟩
      have ar:ss.length<=1000000000000:=by have:=ad.sl;omega
      go_wp2_with (first|(refine aj dR rfl _ rfl rfl [.int .i64 op,.int .i64 kind,.slice A la c,.int .i64 vk,.int .u64 vb,.int .i64 po,.int .i64 WL] rfl (nd0 kn) ?_)|(refine dC dR rfl _ rfl [.int .i64 op,.int .i64 kind,.slice A la c,.int .i64 vk,.int .u64 vb,.int .i64 po,.int .i64 WL] rfl rfl ?_)|(at_builtin;refine bu dR rfl _ _ rfl rfl (b6.old (ba _ _)) rfl [.int .i64 op,.int .i64 kind,.slice A la c,.int .i64 vk,.int .u64 vb,.int .i64 po,.int .i64 WL] (Bk.new _ _ _) nl[x] (bb.out _) ar (by simp;omega) ?_;intro A9 c9 w9 Y lJ fV sH;rw[c4.out]at Y sH⊢))
      have fV:(W7.alloc (.cells #[op,kind,.slice A la c,vk,.int .u64 vb,po,WL] 122)).grownBy w9 (Value.slice As sl H).ownBlock:=fV;have bi:=(ad.old (ba _ (.cells #[op,kind,.slice A la c,vk,.int .u64 vb,po,WL] 122))).stay Y fV sH;obtain⟨_,_,a8,_⟩:=b6.old (ba W7 (.cells #[op,kind,.slice A la c,vk,.int .u64 vb,po,WL] 122));exact⟨⟨kp,x+1,wi,ag,rfl,by go_num,zH ⟨aq,ab,lJ B W0 zL (by simp;omega) (Qh.alloc (by omega) _),(R.old (ba _ _)).row a8 fV,_,bi⟩⟩,by simp[intOf];omega⟩
     
     obtain rfl:nn=x:=by omega
     obtain⟨rc,rf,_,_⟩:=G.pl.DX (zAg r) Xq.out Ee.2.1 false;have rc:wl.cell? ⟨gp,f*4+2,none⟩=_:=rc;have rf:wl.frozen? ⟨gp,f*4+2,none⟩=false:=rf;have a2:=G.pl.prt _ (zFe r);have O:xs[k].parts.ownBlock=some gp:=by rw[Ee.2.1];rfl
     have a7:=G.fin (gp:=gp) λb h=>by
      rw[zAg r]at h;injection h with h
      rw[<-h];exact O
     obtain⟨_,_,a8,_⟩:=G.st;have ar:ss.length<=N:=zFi G.sl b3
     have Q:∀q,(Value.slice X K Z).ownBlock=some q->some q≠(Value.slice As sl H).ownBlock:=λq a e=>by
      obtain⟨_,_,aa,_⟩:=OE.2.2.2;rcases own_ne aa a8 (by decide)with h|h
      ·rw[a]at h;cases h
      exact h (a.trans e)
     have HE:=zH (zA (b0.setCell (p:=⟨gp,f*4+2,none⟩) b4 (.slice As sl H)) (zA (OE.set (i:=f*4+2) (u:=.slice As sl H) a2 O) (zA a7 (zA aq ab))));have aa:Hid (mX (fZ xs k f false (.slice As sl H) ss)=mX jq/\Gx N (fZ xs k f false (.slice As sl H) ss)/\(∀q,(Value.slice X K Z).ownBlock=some q->aJ (.slice (some ⟨g,0,none⟩) n I) (fZ xs k f false (.slice As sl H) ss) q)/\F9 k (fZ xs k f false (.slice As sl H) ss) ys):=zH ⟨(rE _ _ _ _ _ _).trans J.2.1,J.2.2.1.upd ar λh=>absurd h (by decide),λq a=>qi r am (J.2.2.2.2.1 q a) (Q q a),J.2.2.2.2.2.1.upd⟩;have kb:=OE.2.2.1.cell 2;clear G a2 O a7 b0 OE Q a8;go_wp2_with fail
     go_meet
     exact⟨kp,wi,rfl,zH ⟨HE.2.2.2.1,HE.2.2.2.2,HE.1,HE.2.1,_,HE.2.2.1,aa.out⟩⟩
   case rest=>
   obtain⟨kp,wi,rfl,A⟩:=hcut;obtain⟨W4,rfl⟩:∃z:World,z=wc:=⟨_,rfl⟩
   obtain⟨a8,ag,a7,C,Ij,a6,G,Q,a2,H⟩:=A.out;have ao:=C.1;have an:W0.heap.size<=wo.heap.size:=Nb;cases kp
   ·go_wp2_with fail
    go_roundw
    case rel=>exact⟨k+1,_,F,by go_num,zH ⟨a7,by omega,C.2.1,Ij,ys,a6,G,Q,C.2.2.2,a2,H.skip⟩⟩
    case measure=>simp[intOf];omega
   have ad:=a8 rfl;obtain⟨a1,O,_,s3,s4,_⟩:=wR (G.trans J.2.1.symm) r;have M:=H.snoc a1 (y:=⟨kL,wi,.slice (some ⟨gp,0,none⟩) (f+1) l,Ij[k].ps⟩) (by unfold w0B;rw[O,s3,Ee.2.1,Ee.2.2.1]) ⟨ad,ag⟩;have t:=C.2.2.2;have R:=C.2.1;have kb:=C.2.2.1;have y2:=R.cell 2;have af:ys.length<=1000000000000:=by have:=H.len;have:=yz G;have:=Bj.out;omega
   have A:=zH (zA a7 (zA a6 (zA G (zA Q (zA a2 M)))));clear a7 a6 G Q a2 H M O s3 s4 a8;go_wp2_with (first|(refine aj gW rfl _ rfl rfl [.int .i64 kL,.int .i64 wi,.slice (some ⟨gp,0,none⟩) (f+1) l] rfl (λi v hv=>by rw[zFr,kb.cell i];simpa using hv) ?_)|(refine dC gW rfl _ rfl [.int .i64 kL,.int .i64 wi,.slice (some ⟨gp,0,none⟩) (f+1) l] rfl rfl ?_)|(at_builtin;refine bu gW rfl _ _ rfl rfl (t.old (ba _ _)) rfl [.int .i64 kL,.int .i64 wi,.slice (some ⟨gp,0,none⟩) (f+1) l] (Bk.new _ _ _) ⟨kL,wi,.slice (some ⟨gp,0,none⟩) (f+1) l,Ij[k].ps⟩ ⟨rfl,rfl⟩ af (by simp;omega) ?_;intro A9 c9 w9 Y lJ fV sH;rw[bt.out]at Y sH⊢;have k9:=(R.alloc _).grown fV (t.ne R (by decide));have z9:=k9.cell 2;have f9:=k9.frozen 2))
   have fV:(W4.alloc (.cells #[kL,wi,.slice (some ⟨gp,0,none⟩) (f+1) l] 67)).grownBy w9 (Value.slice X K Z).ownBlock:=fV;have sH:(Value.slice A9 (K+1) c9).ownBlock=(Value.slice X K Z).ownBlock\/(Value.slice A9 (K+1) c9).ownBlock=some (W4.alloc (.cells #[kL,wi,.slice (some ⟨gp,0,none⟩) (f+1) l] 67)).heap.size:=sH;have O:=A.2.1.old (ba W4 (.cells #[kL,wi,.slice (some ⟨gp,0,none⟩) (f+1) l] 67));have M:=O.Ql fV λq a=>⟨A.2.2.2.2.1 q a,λh=>by have:=(t.lt a).1;omega⟩
   have ab:=M.Y9 k9 (by decide) (by decide) (by decide)
   have aa:=M.Ql (eu (i:=2) (v:=.slice A9 (K+1) c9) (zF8 w9 (some w2.heap.size))) λq a=>by
    injection a with a
    subst a;exact⟨ab,λh=>by omega⟩
   have aq:=fV.size;have ap:(W4.alloc (.cells #[kL,wi,.slice (some ⟨gp,0,none⟩) (f+1) l] 67)).heap.size=W4.heap.size+1:=by simp
   exact⟨⟨k+1,_,F,by go_num,zH ⟨(lJ B W0 (by omega) (by omega) (A.1.alloc (by omega) _)).setCell (by show B<=w2.heap.size;omega) _,by simp;omega,k9.put 2 _,Ij,_,aa,A.2.2.1,A.2.2.2.1,Y.set (p:=⟨w2.heap.size,2,none⟩) _ (λb hb=>hb.elim) (by show w2.heap.size<W0.heap.size;omega),λq a=>by
    rcases sH with e|e
    ·exact A.2.2.2.2.1 q (e▸a)
    rw[e]at a;injection a with a
    exact O.far (by omega),A.2.2.2.2.2⟩⟩,by simp[intOf];omega⟩
  obtain rfl:k=n:=by omega
  have a9:qy N (xs.map (fJ d)):=.of (by rw[qM.1];exact HG.out) U rY;have M:xs.length<=4:=by rw[yz U,Bj.out];exact bj
  have a5:=WJ.sl (S:=λq=>B<=q) (a0.m λq a=>a.1) rY hN (λb hb=>by have:=(a9.ps (zGa.2 ⟨b,hb,rfl⟩)).2;simpa[fJ]using this) M (λq h=>h) (by omega) t;have A:=HW.2.2.2.1.keep (S':=λq=>w0.heap.size<=q/\q<B) (w':=wo) λb hb F=>⟨hb,by omega,Qk.block b hb.2⟩
  have O:=HW.2.1.below (B:=B) Qk (by omega);have HE:=zH (zA A (zA a5 (zA (WJ.bs (by rw[qM.1];exact HG.out) U rY) (HW.1.trans (Qk.mono (by omega))))));clear A a5 a0 U rY t al WJ a9 M Qk;go_wp2_with (first|(refine aV aP eF rfl (.tmp 3) rfl rfl [.int .i64 ax,.slice qm ks.length L,.slice X K Z] rfl (λj u hu=>by rw[zFr,ak.cell j];simpa using hu) ?_)|(refine ae aP rfl _ _ rfl rfl [.int .i64 ax,.slice qm ks.length L,.slice X K Z] rfl O rfl rfl rfl ?_;intro V A))
  obtain⟨M,Y,R⟩:=zc3 A.bk;exact zFg (v:=.agg #[ax,.slice qm ks.length L,.slice X K Z]) (by simp[results,results21,go_sem,M,Y,R]) rfl ⟨[_,_,_],_,rfl,⟨_,_,rfl,(HE.1.keep (dB.fE A λb hb=>by omega)).keep λb hb F=>⟨by omega,F,rfl⟩,(HE.2.1.keep (dB.fE A λb hb=>by omega)).keep λb hb F=>⟨by omega,F,rfl⟩⟩,HE.2.2.1,A.below _ _ HE.2.2.2 (by omega)⟩
end Go.Proofs.YtbjnhllkdilpfaaGreat
