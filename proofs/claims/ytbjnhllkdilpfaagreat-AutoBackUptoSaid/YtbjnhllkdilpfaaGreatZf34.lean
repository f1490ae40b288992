/- Part 34 of the proof. No conditions. -/
import Derived.Test.YtbjnhllkdilpfaaGreatZf33
set_option linter.unusedVariables false
set_option linter.unusedSimpArgs false
set_option maxRecDepth 100000
set_option maxHeartbeats 8000000
namespace Go.Proofs.YtbjnhllkdilpfaaGreat
open Go.RowKit _root_.Go.Proofs.Tryz
def PtG (N:Nat) (p:dU):Prop:=((1<=p.form/\p.form<=3)/\0<=p.type)/\p.gs.length<=N/\p.cs.length<=N/\(p.form=3->p.cs=[])
def BrG1 (N:Nat) (b:dL):Prop:=okSg (KP b)/\∀p∈b.ps,p.gs.length<=N/\p.cs.length<=N/\(p.form=3->p.cs=[])
def LG (N k:Nat) (bs L:List dL):Prop:=(L.map λb=>b.id).Sublist ((bs.take k).map λb=>b.id)/\∀b∈L,BrG1 N b
theorem LG.bs {N:Nat} {bs L:List dL} (h:LG N bs.length bs L) (d:qy N bs):qy N L:=by
 obtain⟨a,c⟩:=h;rw[zH3]at a;have e:=a.length_le;simp at e;exact⟨zFi e d.nb,d.ids.sublist (a.append_right _),λb hb=>(c b hb).1,λb hb=>(c b hb).2⟩
theorem LG.skip {N k:Nat} {bs L:List dL} (h:LG N k bs L):LG N (k+1) bs L:=⟨h.1.trans ((List.take_sublist_take_left (zJ9 k)).map _),h.2⟩
theorem LG.snoc {N k:Nat} {bs L:List dL} (h:LG N k bs L) (d:k<bs.length) {b:dL} (c:b.id=bs[k].id) (hb:BrG1 N b):LG N (k+1) bs (L++[b]):=by
 refine⟨?_,λx a=>?_⟩
 ·rw[zGc d,zGr,zGr];exact h.1.append (by simp[c])
 rcases zFy.1 a with a|a
 ·exact h.2 x a
 simp at a;subst a;exact hb
def PG (N j:Nat) (kp:Bool) (P:List dU):Prop:=P.length<=j/\(∀p∈P,PtG N p)/\(kp=true->0<j->∃p l,P=p::l/\p.form≠3)
theorem Bd.nd {S j:Nat->Prop} {base d:Nat} {e:List T} {v:Value} {w:World} (h:Bd j base 122 7 (NdP d) e v w) (k:e.length<=1048576) (l:∀q,base<=q->q<w.heap.size->S q) (g:∀q,j q->S q):Nd d S e v w:=by
 obtain⟨ns,i,f⟩:=h.own;obtain⟨A,c,rfl,_⟩:=aK f.1;refine⟨A,c,ns,rfl,?_,λy a=>(f.2.2 y a).keep λb hb a=>⟨g b hb.1,a,rfl⟩,i,by rw[<-i,zF5]at k;exact k⟩;rcases gX f.1 with p|⟨b,o,n,m,a⟩
 ·exact .inl p
 exact .inr ⟨b,o,n,l b m a.1,a⟩
theorem WA {d N:Nat} {S:Nat->Prop} {ax:Int} {ks:List Int} {bs:List dL} {cs:List Value} {w:World} (h:dO d S ax ks bs cs w) (hG:qy N bs) (hN:N<=1048576):Calls prog 19 #[.agg cs.toArray] w (Ol d N ax ks w):=by
 have Y:=h;obtain⟨kv,bv,rfl,hk,hb⟩:=h;obtain⟨Ak,ck,rfl⟩:=hk.form;obtain⟨Ab,cb,rfl⟩:=hb.form;clear hk hb
 go_enter func19,ntmps19
 go_upto_region 1 with fail
 have A:=(Bk.new w 29 #[ax,.slice Ak ks.length ck,.slice Ab bs.length cb]).alloc (.cells #[(),"",""] 29);have k2:=Bk.newAt (w:=w.alloc (.cells #[ax,.slice Ak ks.length ck,.slice Ab bs.length cb] 29)) (g:=w.heap.size+1) (by simp) 29 #[(),"",""];have f:=bel2 w (.cells #[ax,.slice Ak ks.length ck,.slice Ab bs.length cb] 29) (.cells #[(),"",""] 29);generalize(w.alloc (.cells #[ax,.slice Ak ks.length ck,.slice Ab bs.length cb] 29)).alloc (.cells #[(),"",""] 29)=D at *;have z:=zH (zE1 (Y.old f) hG hN);have Tm:=k2.lt;clear Y hG;go_wp2_with (refine aV aP eF rfl (.tmp 1) rfl rfl [.int .i64 ax,.slice Ak ks.length ck,.slice Ab bs.length cb] rfl (λj u hu=>by rw[zFr,A.cell j];simpa using hu) ?_)
 refine z.mono ?_;rintro e w2 ⟨bq,zh,rfl,aa,s,a2⟩;obtain⟨c3,c4,rfl,G,m⟩:=aa;obtain⟨Z,a0,rfl⟩:=G.form;obtain⟨b4,b8,rfl⟩:=m.form;obtain⟨n,y⟩:=zN zh.length
 have k2:=k2.old a2;have r:=zH (f.trans (a2.mono f.size));have t:=zH (zA G.lo m.lo);have HG:=zH s;have c1:=a2.size;rw[y]at t⊢;have uu:=zH y;clear a2 f A z G m s y;go_upto_region 2 with(refine ae aP rfl _ _ rfl rfl [.int .i64 ax,.slice Z ks.length a0,.slice b4 n b8] rfl (Bk.new _ _ _) rfl rfl rfl ?_;intro W p;go_frame)
 have m:Below w2 w2 W:=p.below _ _ (ba _ _) zL;have s:W.heap.size=w2.heap.size+1:=by rw[p.size];simp
 have x2:=p.bk.cell 2;have f2:=p.bk.frozen 2;go_upto_region 4 with fail
 have k3:=p.bk.put 2 (.slice none 0 0);have f:Below w2 w2 (W.setCell ⟨w2.heap.size,2,none⟩ (.slice none 0 0)):=m.setCell zL _;have aw:(W.setCell ⟨w2.heap.size,2,none⟩ (.slice none 0 0)).heap.size=w2.heap.size+1:=by simpa using s
 generalize W.setCell ⟨w2.heap.size,2,none⟩ (.slice none 0 0)=W0 at *;have HW:=zH (zA (r.trans (f.mono r.size)) (zA (k2.old f) (zA k3 (zA (t.1.keep (.old f)) (t.2.keep (.old f))))));clear p m f k2 k3 x2 f2 r t s;have br:n<=4:=by have:=HG.nb;rw[uu.out]at this;exact this
 go_wp2_with fail
 go_loopw[27] (λi wr=>∃(k:Nat) (v:Value) (L:List dL),k<=n/\i=.int .i64 k/\Hid (W0.grownBy wr (some w2.heap.size)/\Bk wr w2.heap.size 29 #[ax,.slice Z ks.length a0,v]/\Bd (λq=>(D.heap.size<=q/\q<w2.heap.size)\/W0.heap.size<=q) W0.heap.size 67 3 (xh d) L v wr/\LG N k zh L)) (λi _=>n-(intOf i).toNat)
 case atStart=>exact⟨0,_,[],zFj _,rfl,zH ⟨zF8 _ _,HW.2.2.1,Bd.nil zL,by simp[LG]⟩⟩
 case round=>
  obtain⟨k,v,L,hk,rfl,F⟩:=hrel;obtain⟨C,rfl⟩:∃z:World,z=wr:=⟨_,rfl⟩
  obtain⟨Av,cv,rfl,_⟩:=F.2.2.1.form;obtain⟨lL,M⟩:=zN L.length
  rw[M]at F;have XV:=zH M;clear M;have be:=F.1.size
  by_cases f:k<n
  ·have G:k<zh.length:=by rw[uu.out];exact f
   obtain⟨_,_,O,_,av⟩:=HW.2.2.2.2;injection O with O a7 hce
   subst O hce;clear a7;obtain⟨b,o,cs,r,c7,hb,m,E⟩:=(av.keep (dB.gV F.1 λb hb=>by omega)).elem G;subst r;have r:=CK.len m;go_upto_region 7 with(first|(refine aj gW rfl _ rfl rfl cs r E ?_)|(refine ae (aY gW.1) rfl _ _ rfl rfl cs rfl (Bk.new _ _ _) r rfl (CK.one m) ?_;intro W1 p1;go_frame))
   obtain⟨pv,rfl,Ap,cp,rfl,aa,y⟩:=m;have t:Below C C W1:=p1.below _ _ (ba _ _) zL;have bw:W1.heap.size=C.heap.size+1:=by rw[p1.size];simp
   have pY:=zH (y.keep (.old t));have HX:=zH (zA p1.bk t);have x2:=p1.bk.cell 2;obtain⟨ps,s⟩:=zN (zh[k].ps)
   obtain⟨kL,B⟩:=zN (zh[k].id)
   obtain⟨win,m⟩:=zN (zh[k].window)
   rw[s]at pY aa HX x2;rw[B,m]at HX;have PL:=zH (zA s (zA B m));obtain⟨np,A⟩:=zN ps.length
   rw[A]at aa HX x2;have P5:=zH A
   have bx:np<=8/\0<np:=by
    have:=HG.ps (zFe G);rw[s,A]at this;exact⟨this.2,this.1⟩
   clear y p1 E r s B m t A;go_wp2_with fail
   go_loopw[8,35] (λm i wr=>∃(x:Int) (j:Nat),j<=np/\m=.int .i64 x/\i=.int .i64 j/\Hid (Below W1 W1 wr)) (λ_ i _=>np-(intOf i).toNat)
   case atStart=>exact⟨-1,0,zFj _,rfl,rfl,zH zR⟩
   case round=>
    obtain⟨x,j,hj,rfl,rfl,B⟩:=hrel
    by_cases J:j<np
    ·
     have a4:j<ps.length:=by rw[P5.out];exact J
     obtain⟨b2,o2,a6,ao,_,a2,Q,a3⟩:=(pY.old B.out).elem a4;subst ao;have y:=CK.len Q;go_upto_region 12 with(first|(refine aj jU rfl _ rfl rfl a6 y a3 ?_)|(refine ae (aY jU.1) rfl _ _ rfl rfl a6 rfl (Bk.new _ _ _) y rfl (CK.one Q) ?_;intro W2 p2;go_frame))
     obtain⟨gv,uv,rfl,_,_⟩:=Q;obtain⟨pf,Lm⟩:=zN (ps[j].form)
     rw[Lm]at p2;have b0:=zH (B.trans ((p2.below wr.heap.size wr (ba _ _) zL).mono B.size));have y0:=p2.bk.cell 0;clear p2 Lm a3
     by_cases h3:pf=3
     ·subst h3;go_wp2_with fail
      go_roundw
      case rel=>exact⟨x,j+1,J,rfl,by go_num,b0⟩
      case measure=>simp[intOf];omega
     have b1:((pf:Int)==3)=false:=zB (by omega)
     go_wp2_with fail
     go_roundw
     case rel=>exact⟨_,j+1,J,rfl,by go_num,b0⟩
     case measure=>simp[intOf];omega
    obtain rfl:np=j:=by omega
    have R:=HX.1.old B.out;have fx:=R.frozen 2;have xx:=R.cell 2;go_upto_region 17 with fail
    have k6:=R.put 2 (.slice none 0 0);have m:Below C C (wr.setCell ⟨C.heap.size,2,none⟩ (.slice none 0 0)):=(HX.2.trans (B.mono HX.2.size)).setCell zL _;have b6:C.heap.size<(wr.setCell ⟨C.heap.size,2,none⟩ (.slice none 0 0)).heap.size:=by simpa using R.lt
    have r:=(pY.old B.out).keep (dB.set (p:=⟨C.heap.size,2,none⟩) (v:=.slice none 0 0) λb hb=>⟨hb,by show b≠C.heap.size;omega⟩);generalize wr.setCell ⟨C.heap.size,2,none⟩ (.slice none 0 0)=W3 at *;have b9:=zH r;clear r pY;have HS:=zH (zA k6 m);have HQ:=zH ((av.keep (dB.gV F.1 λb hb=>by omega)).keep (.old m));have c5:=B.size;clear R fx xx k6 m x2;obtain⟨r,_,t,s⟩:=HG.sg _ (zFe G);obtain⟨x8,m⟩:=zN x
    rw[m];clear m;have Iq:=zH (zA r (zA t (zA s (HG.rows _ (zFe G)))));clear r t s;go_wp2_with fail
    go_loopw[11,48] (λm i wr=>∃(kp:Bool) (j:Nat) (P:List dU) (v:Value),j<=np/\m=.bool kp/\i=.int .i64 j/\Hid (W3.grownBy wr (some C.heap.size)/\Bk wr C.heap.size 67 #[.int .i64 (kL:Nat),win,v]/\Bd (λq=>(D.heap.size<=q/\q<w2.heap.size)\/W3.heap.size<=q) W3.heap.size 69 4 (KI d) P v wr/\PG N j kp P)) (λ_ i _=>np-(intOf i).toNat)
    case atStart=>exact⟨true,0,[],_,zFj _,rfl,rfl,zH ⟨zF8 _ _,HS.1,Bd.nil zL,by simp[PG]⟩⟩
    case round=>
     obtain⟨kp,j,P,v,hj,rfl,rfl,B⟩:=hrel;obtain⟨r,rfl⟩:∃z:World,z=wr:=⟨_,rfl⟩
     obtain⟨As,c8,rfl,_⟩:=B.2.2.1.form;obtain⟨lP,WB⟩:=zN P.length
     rw[WB]at B;have bi:=zH WB;clear WB;have ap:=B.1.size
     by_cases J:j<np
     ·have a4:j<ps.length:=by rw[P5.out];exact J
      obtain⟨b2,o2,a6,ao,_,a2,Q,a3⟩:=(b9.keep (dB.gV B.1 λb hb=>by omega)).elem a4;subst ao;have y:=CK.len Q;go_upto_region 20 with(first|(refine aj jU rfl _ rfl rfl a6 y a3 ?_)|(refine ae (aY jU.1) rfl _ _ rfl rfl a6 rfl (Bk.new _ _ _) y rfl (CK.one Q) ?_;intro W4 E;go_frame))
      obtain⟨gv,uv,rfl,I,s⟩:=Q;have A:Below r r W4:=E.below _ _ (ba _ _) zL;have aw:W4.heap.size=r.heap.size+1:=by rw[E.size];simp
      have mJ:=zH (zA I s);obtain⟨t,m⟩:=zN (ps[j])
      have K:PtG N t:=by
       have hm:t∈zh[k].ps:=by rw[PL.1,<-m];exact zFe a4
       have H:=Iq.2.2.1 (t.form,t.type) (zGa.2 ⟨t,hm,rfl⟩);have U:=Iq.2.2.2 t hm;exact⟨H,U⟩
      have Lm:j=0->t.form≠3:=λh0=>by
       subst h0;have H:=Iq.2.1 (t.form,t.type);unfold KP at H;rw[PL.1]at H
       match ps,a4,m,H with
       |x::l,_,e,H=>
        have e:x=t:=e;subst e;exact H (l.map λp=>(p.form,p.type)) rfl
      rw[m]at mJ E;have a5:=zH (zA K Lm);have U:=E.bk;have bj:=zH A;clear m E a3 I s A y K Lm;obtain⟨Ag,cg,rfl⟩:=mJ.1.form;obtain⟨Au,cu,rfl⟩:=mJ.2.form;have ka:=Bk.newAt (w:=W4) (g:=r.heap.size+1) (by omega) 116 #[.pointer (some ⟨r.heap.size,2,none⟩),.pointer (some ⟨r.heap.size,3,none⟩)];have s:=U.alloc (.cells #[.pointer (some ⟨r.heap.size,2,none⟩),.pointer (some ⟨r.heap.size,3,none⟩)] 116);have m:Below r r (W4.alloc (.cells #[.pointer (some ⟨r.heap.size,2,none⟩),.pointer (some ⟨r.heap.size,3,none⟩)] 116)):=bj.alloc (by omega) _;have c0:(W4.alloc (.cells #[.pointer (some ⟨r.heap.size,2,none⟩),.pointer (some ⟨r.heap.size,3,none⟩)] 116)).heap.size=r.heap.size+2:=by simp;omega
      go_wp2_with fail
      generalize W4.alloc (.cells #[.pointer (some ⟨r.heap.size,2,none⟩),.pointer (some ⟨r.heap.size,3,none⟩)] 116)=I at *;have bt:W4.heap.size=r.heap.size+1:=aw;have b5:Hid (Below r r I/\I.heap.size<=I.heap.size/\Bk I r.heap.size 69 #[t.form,t.type,.slice Ag t.gs.length cg,.slice Au t.cs.length cu]/\Bk I (r.heap.size+1) 116 #[.pointer (some ⟨r.heap.size,2,none⟩),.pointer (some ⟨r.heap.size,3,none⟩)]):=zH ⟨m,zFv _,s,ka⟩;have bh:Hid (Nd d (λq=>(D.heap.size<=q/\q<w2.heap.size)\/I.heap.size<=q) t.gs (.slice Ag t.gs.length cg) I/\Nd d (λq=>(D.heap.size<=q/\q<w2.heap.size)\/I.heap.size<=q) t.cs (.slice Au t.cs.length cu) I):=zH ⟨(mJ.1.keep (.old m)).keep λb hb f=>⟨.inl hb,f,rfl⟩,(mJ.2.keep (.old m)).keep λb hb f=>⟨.inl hb,f,rfl⟩⟩;clear ka s U m
      go_loopw[14,57] (λE i wr=>∃(bd:Bool) (A:Nat) (v u:Value) (tg tc:List T),A<=2/\E=.bool bd/\i=.int .i64 A/\Hid ((Below r r wr/\I.heap.size<=wr.heap.size/\Bk wr r.heap.size 69 #[t.form,t.type,v,u]/\Bk wr (r.heap.size+1) 116 #[.pointer (some ⟨r.heap.size,2,none⟩),.pointer (some ⟨r.heap.size,3,none⟩)])/\(Nd d (λq=>(D.heap.size<=q/\q<w2.heap.size)\/I.heap.size<=q) tg v wr/\Nd d (λq=>(D.heap.size<=q/\q<w2.heap.size)\/I.heap.size<=q) tc u wr)/\(tg.length<=N/\tc.length<=N/\(t.form=3->tc=[]))/\(A=0->v=.slice Ag t.gs.length cg/\tg=t.gs)/\(A<=1->u=.slice Au t.cs.length cu/\tc=t.cs))) (λ_ i _=>2-(intOf i).toNat)
      case atStart=>exact⟨false,0,_,_,_,_,by decide,rfl,rfl,zH ⟨b5.out,bh.out,a5.1.2,λ_=>⟨rfl,rfl⟩,λ_=>⟨rfl,rfl⟩⟩⟩
      case round=>
       obtain⟨bd,A,v,u,tg,tc,c6,rfl,rfl,s⟩:=hrel;obtain⟨wz,rfl⟩:∃z:World,z=wr:=⟨_,rfl⟩
       by_cases h4:A<2
       ·obtain⟨x,tx,bb,K,ar⟩:∃(x:Value) (tx:List T),wz.cell? ⟨r.heap.size,2+A,none⟩=some x/\Nd d (λq=>D.heap.size<=q/\q<w2.heap.size) tx x wz/\(tx.length<=N/\(A=1->t.form=3->tx.length=0)):=by
         rcases(by omega:A=0\/A=1)with rfl|rfl
         ·obtain⟨m,U⟩:=s.2.2.2.1 rfl;exact⟨v,tg,s.1.2.2.1.cell 2,by rw[m,U];exact mJ.1.keep λb hb f=>⟨hb,by have:=s.1.1.size;omega,s.1.1.block b f⟩,s.2.2.1.1,λh=>absurd h (by decide)⟩
         obtain⟨m,U⟩:=s.2.2.2.2 (by decide);exact⟨u,tc,s.1.2.2.1.cell 3,by rw[m,U];exact mJ.2.keep λb hb f=>⟨hb,by have:=s.1.1.size;omega,s.1.1.block b f⟩,s.2.2.1.2.1,λ_ h3=>by rw[s.2.2.1.2.2 h3];rfl⟩
        obtain⟨Ax,cx,rfl⟩:=K.form
        have bm:wz.cell? ⟨r.heap.size+1,A,none⟩=some (.pointer (some ⟨r.heap.size,2+A,none⟩)):=by
         rcases(by omega:A=0\/A=1)with rfl|rfl
         ·exact s.1.2.2.2.cell 0
         exact s.1.2.2.2.cell 1
        have EF:=zH K.sl;obtain⟨m,hm⟩:=zN tx.length
        rw[hm]at bb EF ar;have HM:=zH hm;have b3:=s.1.2.1;clear K hm;have K:decide ((A:Int)<2)=true:=by rw[zF9];omega
        go_wp2_with fail
        try rw[K]
        clear K
        go_loopw[14,17,65] (λE U i wr=>∃(bd:Bool) (K:Nat) (lt:List T),K<=m/\E=.bool bd/\i=.int .i64 K/\Hid (Below wz wz wr/\lt.length<=K/\Bd (λq=>D.heap.size<=q/\q<w2.heap.size) wz.heap.size 122 7 (NdP d) lt U wr)) (λ_ _ i _=>m-(intOf i).toNat)
        case atStart=>exact⟨bd,0,[],zFj _,rfl,rfl,zH ⟨zGp _ _,zFv _,Bd.nil zL⟩⟩
        case round=>
         obtain⟨bd,K,lt,bo,rfl,rfl,E⟩:=hrel;obtain⟨wn,rfl⟩:∃z:World,z=wr:=⟨_,rfl⟩
         obtain⟨Al,cl,rfl,_⟩:=E.2.2.form;obtain⟨ll,U⟩:=zN lt.length
         rw[U]at E⊢;have SE:=zH U;clear U;have aq:=E.1.size
         by_cases h5:K<m
         ·have al:K<tx.length:=by rw[HM.out];exact h5
          obtain⟨_,_,O,_,a1⟩:=EF.out;injection O with O a7 hce
          subst O hce;clear a7;obtain⟨b7,o7,ak,a8,ca,bl,U,X⟩:=(a1.old E.1).elem al;subst a8;have ad:=CK.len U;go_upto_region 28 with(first|(refine aj dR rfl _ rfl rfl ak ad X ?_)|(refine ae (aY dR.1) rfl _ _ rfl rfl ak rfl (Bk.new _ _ _) ad rfl (CK.one U) ?_;intro W6 p6;go_frame))
          have yV:Below wn wn W6:=p6.below _ _ (ba _ _) zL;have bp:W6.heap.size=wn.heap.size+1:=by rw[p6.size];simp
          have ab:=zH (CK.keep (dB.old yV) U);obtain⟨_,op,kind,us,vk,vb,pos,a,An,cn,_,_,rfl,_⟩:=U.mk;obtain⟨ln,an⟩:=zN us.length
          rw[an]at ab p6;have k6:=p6.bk;have Ru:=zH (E.1.trans (yV.mono aq));have KE:=zH (zA k6 yV);obtain⟨z0,z1,z2,z3,z4,z5,z6⟩:=zc7 k6;clear p6 X a1 yV k6 U
          go_cut[81] (λv wx=>∃c:Bool,v=.bool c/\Hid (Below W6 W6 wx))
          case first=>
           by_cases Xn:op=40
           ·subst Xn
            by_cases U:x8<(j:Int)
            ·go_wp2_with fail
             refine(isW _ _ _ _ _ _ _ _ _ _ _).mono ?_;rintro e w7 ⟨z,rfl,X⟩;have Y4:=zH X;clear X;go_wp2_with fail
             go_meet
             exact⟨_,rfl,Y4⟩
            go_wp2_with fail
            go_meet
            exact⟨_,rfl,zH zR⟩
           go_wp2_with fail
           go_meet
           exact⟨_,rfl,zH zR⟩
          case rest=>
          obtain⟨c,rfl,Y4⟩:=hcut;clear z0 z1 z2 z3 z4 z5 z6;have k8:=KE.1.old Y4.out;have Tf:=zH (Ru.trans (Y4.mono Ru.size));have c2:=Y4.size;cases c
          ·go_wp2_with (refine aj dR rfl _ rfl rfl [.int .i64 op,.int .i64 kind,.slice An ln cn,.int .i64 vk,.int .u64 vb,.int .i64 pos,.int .i64 a] rfl (nd0 k8) ?_)
           refine(isW _ _ _ _ _ _ _ _ _ _ _).mono ?_;rintro e w7 ⟨z,rfl,X⟩;have a8:=zH (Tf.trans (X.mono Tf.size));have a1:=zH (((KE.2.trans (Y4.mono KE.2.size)).trans (X.mono (KE.2.trans (Y4.mono KE.2.size)).size)));clear X;cases z
           ·go_wp2_with fail
            go_roundw
            case rel=>exact⟨true,K+1,lt,h5,rfl,by go_num,zH ⟨a8.out,by rw[SE.out];have:=E.2.1;omega,E.2.2.old a1.out⟩⟩
            case measure=>simp[intOf];omega
           go_wp2_with fail
           go_roundw
           case rel=>exact⟨bd,K+1,lt,h5,rfl,by go_num,zH ⟨a8.out,by rw[SE.out];have:=E.2.1;omega,E.2.2.old a1.out⟩⟩
           case measure=>simp[intOf];omega
          have hs:=(E.2.2.old (KE.2.trans (Y4.mono KE.2.size))).old (ba wc (.cells #[op,kind,.slice An ln cn,vk,.int .u64 vb,pos,a] 122))
          have U:Hid (NdP d (λq=>(D.heap.size<=q/\q<w2.heap.size)/\some q≠(Value.slice Al ll cl).ownBlock) tx[K] [.int .i64 op,.int .i64 kind,.slice An ln cn,.int .i64 vk,.int .u64 vb,.int .i64 pos,.int .i64 a] wc):=zH ((CK.keep (dB.old Y4.out) ab.out:NoP d _ tx[K] _ wc).keep λq hq f=>⟨⟨hq,λe=>by
           have:=(E.2.2.lt e.symm).1
           omega⟩,f,rfl⟩)
          go_wp2_with (first|(refine aj dR rfl _ rfl rfl [.int .i64 op,.int .i64 kind,.slice An ln cn,.int .i64 vk,.int .u64 vb,.int .i64 pos,.int .i64 a] rfl (nd0 k8) ?_)|(refine dC dR rfl _ rfl [.int .i64 op,.int .i64 kind,.slice An ln cn,.int .i64 vk,.int .u64 vb,.int .i64 pos,.int .i64 a] rfl rfl ?_)|(at_builtin;refine bu dR rfl _ _ rfl rfl hs rfl [.int .i64 op,.int .i64 kind,.slice An ln cn,.int .i64 vk,.int .u64 vb,.int .i64 pos,.int .i64 a] (Bk.new _ _ _) tx[K] (eG.keep (dB.old (ba _ _)) U.out) (by rw[SE.out];have:=E.2.1;omega) (by simp;omega) ?_;intro A9 c9 w9 h9 lJ fV sH))
          rw[SE.out]at h9⊢;go_roundw
          case rel=>exact⟨bd,K+1,_,h5,rfl,by go_num,zH ⟨lJ _ _ zL (by simp;omega) (Tf.alloc (by omega) _),by simp[SE.out];have:=E.2.1;omega,h9⟩⟩
          case measure=>simp[intOf];omega
         obtain rfl:m=K:=by omega
         have f:=E.2.1;have a7:lt.length<=m:=by rw[SE.out];exact f
         have ag:Nd d (λq=>(D.heap.size<=q/\q<w2.heap.size)\/I.heap.size<=q) lt (.slice Al ll cl) wn:=E.2.2.nd (by omega) (λq H _=>.inr (by omega)) (λq h=>.inl h);have R:=s.1.2.2.1.old E.1;have ka:=(s.1.2.2.2.old E.1).far (p:=⟨r.heap.size,2+A,none⟩) (by show r.heap.size+1≠r.heap.size;omega) (.slice Al ll cl);have Y5:Below r r wn:=s.1.1.trans (E.1.mono s.1.1.size);have a9:=Y5.setCell (p:=⟨r.heap.size,2+A,none⟩) zL (.slice Al ll cl);have af:I.heap.size<=(wn.setCell ⟨r.heap.size,2+A,none⟩ (.slice Al ll cl)).heap.size:=by simp;omega
         have a1:∀b,((D.heap.size<=b/\b<w2.heap.size)\/I.heap.size<=b)->((D.heap.size<=b/\b<w2.heap.size)\/I.heap.size<=b)/\b≠r.heap.size:=λb hb=>⟨hb,by omega⟩
         have AY:=ag.keep (dB.set (p:=⟨r.heap.size,2+A,none⟩) (v:=.slice Al ll cl) a1);have CV:=(s.2.1.1.keep (.old E.1)).keep (dB.set (p:=⟨r.heap.size,2+A,none⟩) (v:=.slice Al ll cl) a1);have a8:=(s.2.1.2.keep (.old E.1)).keep (dB.set (p:=⟨r.heap.size,2+A,none⟩) (v:=.slice Al ll cl) a1);have X:=zH (zA ka (zA a9 (zA af (zA AY (zA CV a8)))));have z:=s.2.2.1;have am:=s.2.2.2.2;clear ag ka Y5 a9 af a1 AY CV a8;rcases(by omega:A=0\/A=1)with rfl|rfl
         ·have fx:=R.frozen 2;have xx:=R.cell 2;have k6:=R.put 2 (.slice Al ll cl);go_wp2_with fail
          go_roundw
          case rel=>exact⟨bd,0+1,_,u,lt,tc,by decide,rfl,by go_num,zH ⟨⟨X.2.1,X.2.2.1,k6,X.1⟩,⟨X.2.2.2.1,X.2.2.2.2.2⟩,⟨by omega,z.2⟩,λh=>absurd h (by decide),λ_=>am (by decide)⟩⟩
          case measure=>simp[intOf]
         have fx:=R.frozen 3;have xx:=R.cell 3;have k6:=R.put 3 (.slice Al ll cl);go_wp2_with fail
         go_roundw
         case rel=>exact⟨bd,1+1,v,_,tg,lt,by decide,rfl,by go_num,zH ⟨⟨X.2.1,X.2.2.1,k6,X.1⟩,⟨X.2.2.2.2.1,X.2.2.2.1⟩,⟨z.1,by omega,λh3=>List.length_eq_zero_iff.1 (by have:=ar.2 rfl h3;omega)⟩,λh=>absurd h (by decide),λh=>absurd h (by decide)⟩⟩
         case measure=>simp[intOf]
       obtain rfl:A=2:=by omega
       obtain⟨a9,a7,rfl⟩:=s.2.1.1.form;obtain⟨a8,ab,rfl⟩:=s.2.1.2.form;obtain⟨lg,af⟩:=zN tg.length
       obtain⟨lc,al⟩:=zN tc.length
       rw[af,al]at s;have bp:=s.1.1.size;have b3:=s.1.2.1;have am:=s.1.2.2.1;have kb:=B.2.1.old s.1.1;have ad:=B.2.2.1.old s.1.1;have y0:=am.cell 0;have y2:=kb.cell 2;have f2:=kb.frozen 2;obtain⟨pf,Lm⟩:=zN t.form
       obtain⟨E,X⟩:=zN t.type
       rw[Lm]at a5 y0;rw[Lm,X]at s am;have ag:=zH (zA Lm X);have aq:=zH (zA af al);have bo:=a5.1.1;have ak:=a5.2;have z:=s.2.2.1;have K:=B.2.2.2;clear af al Lm X;cases bd
       ·have X:∀b,((D.heap.size<=b/\b<w2.heap.size)\/I.heap.size<=b)->(((D.heap.size<=b/\b<w2.heap.size)\/W3.heap.size<=b)/\some b≠(Value.slice As lP c8).ownBlock):=λb hb=>⟨by omega,λe=>by have:=B.2.2.1.lt e.symm;omega⟩
        have VF:Hid (∀o,KI d (λq=>((D.heap.size<=q/\q<w2.heap.size)\/W3.heap.size<=q)/\some q≠(Value.slice As lP c8).ownBlock) ⟨pf,E,tg,tc⟩ [.int .i64 pf,.int .i64 E,.slice a9 lg a7,.slice a8 lc ab] (wz.alloc o)):=zH λo=>⟨_,_,rfl,(s.2.1.1.keep λb hb f=>⟨X b hb,f,rfl⟩).keep (.old (ba _ _)),(s.2.1.2.keep λb hb f=>⟨X b hb,f,rfl⟩).keep (.old (ba _ _))⟩
        have WB:P.length<=1000000000000:=by have:=K.1;omega
        have Y5:Below W3.heap.size r wz:=s.1.1.mono ap;clear X;go_wp2_with (first|(refine aj jU rfl _ rfl rfl [.int .i64 pf,.int .i64 E,.slice a9 lg a7,.slice a8 lc ab] rfl (λi v hv=>by rw[zFr,am.cell i];simpa using hv) ?_)|(refine dC jU rfl _ rfl [.int .i64 pf,.int .i64 E,.slice a9 lg a7,.slice a8 lc ab] rfl rfl ?_)|(at_builtin;refine bu jU rfl _ _ rfl rfl (ad.old (ba _ _)) rfl [.int .i64 pf,.int .i64 E,.slice a9 lg a7,.slice a8 lc ab] (Bk.new _ _ _) ⟨pf,E,tg,tc⟩ (VF.out _) WB (by simp;omega) ?_;intro A9 c9 w9 h9 lJ fV sH;rw[bi.out]at h9 sH⊢;have k9:=(kb.alloc _).grown fV (ad.ne kb (by decide));have z9:=k9.cell 2;have f9:=k9.frozen 2))
        have an:Below W3.heap.size r w9:=lJ _ _ zL (by simp;omega) (Y5.alloc (by omega) _);have U:=zH (zA (eu (i:=2) (v:=.slice A9 (lP+1) c9) (dD B.1 an)) (zA (k9.put 2 (.slice A9 (lP+1) c9)) (h9.set (p:=⟨C.heap.size,2,none⟩) (.slice A9 (lP+1) c9) (λb hb=>by show b≠C.heap.size;omega) b6)));have af:PtG N ⟨pf,E,tg,tc⟩:=⟨by have:=a5.1.1;rw[ag.1,ag.2]at this;exact this,by show tg.length<=N;rw[aq.1];exact z.1,by show tc.length<=N;rw[aq.2];exact z.2.1,z.2.2⟩
        have al:PG N (j+1) kp (P++[⟨pf,E,tg,tc⟩]):=by
         refine⟨by have:=K.1;simp;omega,λp Y=>?_,λa1 _=>?_⟩
         ·rcases zFy.1 Y with Y|Y
          ·exact K.2.1 p Y
          simp at Y;subst Y;exact af
         by_cases h0:j=0
         ·have bl:P=[]:=List.length_eq_zero_iff.1 (by have:=K.1;omega);subst bl;exact⟨_,[],rfl,ak h0⟩
         obtain⟨p,l,rfl,H⟩:=K.2.2 a1 (by omega);exact⟨p,l++[_],rfl,H⟩
        have a1:=zH al;clear lJ fV sH af al Y5 VF;go_roundw
        case rel=>exact⟨kp,j+1,_,_,J,rfl,by go_num,zH ⟨U.1,U.2.1,U.2.2,a1.out⟩⟩
        case measure=>simp[intOf];omega
       by_cases h3:pf=3
       ·subst h3;have af:j≠0:=λh0=>ak h0 rfl
        go_wp2_with fail
        go_roundw
        case rel=>exact⟨kp,j+1,P,_,J,rfl,by go_num,zH ⟨dD B.1 (s.1.1.mono ap),kb,ad,by have:=K.1;omega,K.2.1,λH _=>K.2.2 H (by omega)⟩⟩
        case measure=>simp[intOf];omega
       have b1:((pf:Int)==3)=false:=zB (by omega)
       go_wp2_with fail
       go_roundw
       case rel=>exact⟨false,j+1,P,_,J,rfl,by go_num,zH ⟨dD B.1 (s.1.1.mono ap),kb,ad,by have:=K.1;omega,K.2.1,λH=>absurd H (by decide)⟩⟩
       case measure=>simp[intOf];omega
     obtain rfl:np=j:=by omega
     have m:Below C C r:=HS.2.grown B.1 (by omega) λk hk=>by injection hk with hk;omega
     have ad:=m.size;have E:=F.2.1.old m;have kb:=B.2.1;have z:=F.2.2.1.old m;have y2:=E.cell 2;have f2:=E.frozen 2;have K:=B.2.2.2;have s:Below W0.heap.size C r:=m.mono be;cases kp
     ·go_wp2_with fail
      go_roundw
      case rel=>exact⟨k+1,_,L,f,by go_num,zH ⟨dD F.1 s,E,z,F.2.2.2.skip⟩⟩
      case measure=>simp[intOf];omega
     obtain⟨p1,l1,A,a1⟩:=K.2.2 rfl (by omega);have WB:P.length<=1000000000000:=by have:=K.1;omega
     have M:L.length<=1000000000000:=by
      have H:=F.2.2.2.1.length_le;simp at H;omega
     have X:∀b,((D.heap.size<=b/\b<w2.heap.size)\/W3.heap.size<=b)->(((D.heap.size<=b/\b<w2.heap.size)\/W0.heap.size<=b)/\some b≠(Value.slice Av lL cv).ownBlock):=λb hb=>⟨by omega,λe=>by have:=F.2.2.1.lt e.symm;omega⟩
     have a9:Sl (KI d) (λq=>(D.heap.size<=q/\q<w2.heap.size)\/W3.heap.size<=q) P (.slice As lP c8) r:=B.2.2.1.sl (λb hb=>.inr hb) WB;have a7:Hid (∀o,xh d (λq=>((D.heap.size<=q/\q<w2.heap.size)\/W0.heap.size<=q)/\some q≠(Value.slice Av lL cv).ownBlock) ⟨kL,win,P⟩ [.int .i64 (kL:Nat),.int .i64 win,.slice As lP c8] (r.alloc o)):=zH λo=>⟨_,rfl,(a9.keep λb hb f=>⟨X b hb,f,rfl⟩).keep (.old (ba _ _))⟩
     have a8:LG N (k+1) zh (L++[⟨kL,win,P⟩]):=by
      refine F.2.2.2.snoc G PL.2.1.symm ⟨⟨?_,⟨?_,?_⟩,?_,?_⟩,λp Y=>(K.2.1 p Y).2⟩
      ·have:=Iq.1;simp only[KP]at this⊢;rw[<-PL.2.2];exact this
      ·simp[KP,A]
      ·have:=K.1;simp[KP];omega
      ·intro x l hx;simp[KP,A]at hx;rw[<-hx.1];exact a1
      intro x hx;simp only[KP,zGa]at hx;obtain⟨p,Y,rfl⟩:=hx;exact(K.2.1 p Y).1
     have ab:=zH a8;clear a8 X a9 A a1;go_wp2_with (first|(refine aj gW rfl _ rfl rfl [.int .i64 (kL:Nat),.int .i64 win,.slice As lP c8] rfl (λi v hv=>by rw[zFr,kb.cell i];simpa using hv) ?_)|(refine dC gW rfl _ rfl [.int .i64 (kL:Nat),.int .i64 win,.slice As lP c8] rfl rfl ?_)|(at_builtin;refine bu gW rfl _ _ rfl rfl (z.old (ba _ _)) rfl [.int .i64 (kL:Nat),.int .i64 win,.slice As lP c8] (Bk.new _ _ _) ⟨kL,win,P⟩ (a7.out _) M (by simp;omega) ?_;intro A9 c9 w9 h9 lJ fV sH;rw[XV.out]at h9 sH⊢;have k9:=(E.alloc _).grown fV (z.ne E (by decide));have z9:=k9.cell 2;have f9:=k9.frozen 2))
     have an:Below W0.heap.size C w9:=lJ _ _ zL (by simp;omega) (s.alloc (by omega) _);have U:=zH (zA (eu (i:=2) (v:=.slice A9 (lL+1) c9) (dD F.1 an)) (zA (k9.put 2 (.slice A9 (lL+1) c9)) (h9.set (p:=⟨w2.heap.size,2,none⟩) (.slice A9 (lL+1) c9) (λb hb=>by show b≠w2.heap.size;omega) (by show w2.heap.size<W0.heap.size;omega))));clear lJ fV sH a7;go_roundw
     case rel=>exact⟨k+1,_,_,f,by go_num,zH ⟨U.1,U.2.1,U.2.2,ab.out⟩⟩
     case measure=>simp[intOf];omega
  obtain rfl:k=n:=by omega
  have m:=F.2.2.2
  have M:L.length<=1000000000000:=by
   have H:=m.1.length_le;simp at H;omega
  have k3:=F.2.1;have R:=HW.2.1.grown F.1 (by simp;omega);have r:Below w w C:=HW.1.grown F.1 HW.1.size λk hk=>by injection hk with hk;omega
  have t:Sl gK (λq=>D.heap.size<=q/\q<w2.heap.size) ks (.slice Z ks.length a0) C:=HW.2.2.2.1.keep (dB.gV F.1 λb hb=>by omega);have s:Sl (xh d) (λq=>(D.heap.size<=q/\q<w2.heap.size)\/W0.heap.size<=q) L (.slice Av lL cv) C:=F.2.2.1.sl (λb hb=>.inr hb) M
  have hG:qy N L:=by
   refine LG.bs (bs:=zh) ?_ HG.out;rw[uu.out];exact m
  have U:=zH (zA t (zA s (zA hG r)));clear t s hG r;go_wp2_with (first|(refine aV aP eF rfl (.tmp 3) rfl rfl [.int .i64 ax,.slice Z ks.length a0,.slice Av lL cv] rfl (λj u hu=>by rw[zFr,k3.cell j];simpa using hu) ?_)|(refine ae aP rfl _ _ rfl rfl [.int .i64 ax,.slice Z ks.length a0,.slice Av lL cv] rfl R rfl rfl rfl ?_;intro w9 r;have y0:=r.bk.cell 0;have s:=r.bk.cell 1;have y2:=r.bk.cell 2))
  refine zFg (v:=.agg #[ax,.slice Z ks.length a0,.slice Av lL cv]) (by simp[results,results19,go_sem,y0,s,y2]) rfl ?_;exact⟨[_,_,_],L,rfl,⟨_,_,rfl,(U.1.keep (dB.fE r λb hb=>by omega)).keep λb hb f=>⟨by omega,f,rfl⟩,(U.2.1.keep (dB.fE r λb hb=>by omega)).keep λb hb f=>⟨by omega,f,rfl⟩⟩,U.2.2.1,r.below _ _ U.2.2.2 (by omega)⟩
end Go.Proofs.YtbjnhllkdilpfaaGreat
