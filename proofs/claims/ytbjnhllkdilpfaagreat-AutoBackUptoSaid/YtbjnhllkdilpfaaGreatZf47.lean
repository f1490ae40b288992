/- Part 47 of the proof. No conditions. -/
import Derived.Test.YtbjnhllkdilpfaaGreatZf30
set_option linter.unusedVariables false
set_option linter.unusedSimpArgs false
set_option maxRecDepth 100000
set_option maxHeartbeats 8000000
namespace Go.Proofs.YtbjnhllkdilpfaaGreat
open Go.RowKit _root_.Go.Proofs.Tryz
theorem Si.one {d:Nat} {S:Nat->Prop} {ns:List ah} {A:Option Addr} {l c c':Nat} {w:World} (h:Si d S ns (.slice A l c) w) {k:Nat} (g:k<ns.length):∃b o,A=some ⟨b,o,none⟩/\Nd d (λ_=>True) [eP d ns[k]] (.slice (some ⟨b,o+k*7,none⟩) 1 c') w:=by
 obtain⟨b,o,f,i,j,e⟩:=h.elem g;exact⟨b,o,f,_,_,[ns[k]],rfl,.inr ⟨b,o+k*7,rfl,trivial,i,by simpa using e⟩,λy a=>by simp at a;subst a;exact j.keep λb _ a=>⟨trivial,a,rfl⟩,rfl,by show 1<=1048576;decide⟩
theorem Qj {d:Nat} {S:Nat->Prop} {ns:List ah} {v:Value} {w:World} (h:Si d S ns v w):Calls prog 52 #[v] w (NoW d ns.length S w):=by
 have N:=h;obtain⟨A,c,rfl,_,_,X,g⟩:=N;have J:=zH h.lo;obtain⟨l,a⟩:=zN ns.length
 have R:=zH a;rw[a]at J X g⊢;clear h a
 go_enter func52,ntmps52
 go_wp2_with fail
 go_loopw[3,9] (λa i wr=>∃(k:Nat) (I:List ah),k<=l/\i=.int .i64 k/\Hid (I.length<=k/\Below w w wr/\Bd (λq=>S q/\q<w.heap.size\/w.heap.size<=q) w.heap.size 122 7 (Hy d) I a wr)) (λ_ i _=>l-(intOf i).toNat)
 case atStart=>exact⟨0,[],zFj _,rfl,zH ⟨zFv _,zGp _ _,Bd.nil zL⟩⟩
 case round=>
  obtain⟨k,I,hk,rfl,r⟩:=hrel;obtain⟨U,rfl⟩:∃z:World,z=wr:=⟨_,rfl⟩
  obtain⟨W,P,rfl,_⟩:=r.2.2.form;obtain⟨m,a⟩:=zN I.length
  have H:=zH a;rw[a]at r⊢;clear a;have D:=r.2.1.size
  by_cases y:k<l
  ·have G:k<ns.length:=by rw[R.out];exact y
   go_upto_region 6 with fail
   go_wp2_with fail
   go_loopw[5,6] (λe a wr=>∃(p:Bool) (j:Nat),j<=k/\e=.bool p/\a=.int .i64 j/\Hid (Below U U wr)) (λ_ i _=>k-(intOf i).toNat)
   case atStart=>exact⟨false,0,zFj _,rfl,rfl,zH zR⟩
   case round=>
    obtain⟨p,j,hj,rfl,rfl,E⟩:=hrel
    by_cases M:j<k
    ·have K:j<ns.length:=by rw[R.out];omega
     obtain⟨b,o,rfl,f⟩:=(J.old (r.2.1.trans (E.mono D))).one (c':=c-j) K;obtain⟨b',o',O,a⟩:=(J.old (r.2.1.trans (E.mono D))).one (c':=c-k) G;injection O with O
     injection O with N h2
     subst N h2;have Q:=zH (zA f a)
     obtain⟨h,n⟩:∃z:Bool,z=true<->[eP d ns[j]]=[eP d ns[k]]:=by
      by_cases e:[eP d ns[j]]=[eP d ns[k]]
      ·exact⟨true,⟨λ_=>e,λ_=>rfl⟩⟩
      exact⟨false,⟨λx=>absurd x (by simp),λx=>absurd x e⟩⟩
     have HH:=zH n;clear f a n;have a1:IntKind.i64.wrap ((j:Int)+1)=(j:Int)+1:=by rw[zJx];omega
     have a0:IntKind.i64.wrap ((k:Int)+1)=(k:Int)+1:=by rw[zJx];omega
     have fj:(0:Int)<=(j:Int)+1/\(j:Int)+1<=(c:Int):=by omega
     have fk:(0:Int)<=(k:Int)+1/\(k:Int)+1<=(c:Int):=by omega
     have gj:¬c=j:=by omega
     have gk:¬c=k:=by omega
     go_upto_region 9 with fail
     refine wx (λ_=>false) [.is (.bool p),.is (.bool p),.is (bif (true&&(p==false))then .slice (some ⟨b,o,none⟩) l c else undef),.is (bif (true&&(p==false))then .int .i64 j else undef),.is (bif (true&&(p==false))then .int .i64 j else undef),.is (bif (true&&(p==false))then .int .i64 ((j:Int)+1)else undef),.is (bif (true&&(p==false))then .slice (some ⟨b,o+j*7,none⟩) 1 (c-j)else undef),.is (bif (true&&(p==false))then .slice (some ⟨b,o,none⟩) l c else undef),.is (bif (true&&(p==false))then .int .i64 k else undef),.is (bif (true&&(p==false))then .int .i64 k else undef),.is (bif (true&&(p==false))then .int .i64 ((k:Int)+1)else undef),.is (bif (true&&(p==false))then .slice (some ⟨b,o+k*7,none⟩) 1 (c-k)else undef),.is (bif (true&&(p==false))then .bool h else undef),.is (.bool (p||h))] [2,3,4,5,6,7,8,9,10,11,12,13] (by kernel_rfl) (by kernel_rfl) (by kernel_rfl)
      (λC=>.c (px C rfl (λ_ _=>rfl)) <| .c (px C rfl (λ_ _=>rfl)) <| .c (po [] [0] 1 false rfl rfl rfl (by kernel_rfl) λg F z u t s f a n=>?_) <| .c (po [] [6] 1 false rfl rfl rfl (by kernel_rfl) λg F z u t s f a n=>?_) <| .c (po [] [6] 1 false rfl rfl rfl (by kernel_rfl) λg F z u t s f a n=>?_) <| .c (po [4] [] 1 false rfl rfl rfl (by kernel_rfl) λg F z u t s f a n=>?_) <| .c (po [2,3,5] [] 1 false rfl rfl rfl (by kernel_rfl) λg F z u t s f a n=>?_) <| .c (po [] [0] 1 false rfl rfl rfl (by kernel_rfl) λg F z u t s f a n=>?_) <| .c (po [] [4] 1 false rfl rfl rfl (by kernel_rfl) λg F z u t s f a n=>?_) <| .c (po [] [4] 1 false rfl rfl rfl (by kernel_rfl) λg F z u t s f a n=>?_) <| .c (po [9] [] 1 false rfl rfl rfl (by kernel_rfl) λg F z u t s f a n=>?_) <| .c (po [7,8,10] [] 1 false rfl rfl rfl (by kernel_rfl) λg F z u t s f a n=>?_) <| .c (po [6,11] [] 1 false rfl rfl rfl (by kernel_rfl) λg F z u t s f a n=>?_) <| .c (pz [1,12] [] (by kernel_rfl) λz u t s f a n=>?_) .nil) ?_
     ·subst g;have B:=f.1.trans rfl;clear f a;go_simp;exact n _ _ zR rfl
     ·subst g;have B:=f.1.trans rfl;clear f a;go_simp;exact n _ _ zR rfl
     ·subst g;have B:=f.1.trans rfl;clear f a;go_simp;exact n _ _ zR rfl
     ·subst g;have B:=aA a.1 rfl rfl;clear f a;go_simp;exact n _ _ zR rfl
     ·subst g;have B:=aA a.1 rfl rfl;have L:=aA a.2.1 rfl rfl;have Z:=aA a.2.2.1 rfl rfl;clear f a;go_simp;exact n _ _ zR rfl
     ·subst g;have B:=f.1.trans rfl;clear f a;go_simp;exact n _ _ zR rfl
     ·subst g;have B:=f.1.trans rfl;clear f a;go_simp;exact n _ _ zR rfl
     ·subst g;have B:=f.1.trans rfl;clear f a;go_simp;exact n _ _ zR rfl
     ·subst g;have B:=aA a.1 rfl rfl;clear f a;go_simp;exact n _ _ zR rfl
     ·subst g;have B:=aA a.1 rfl rfl;have L:=aA a.2.1 rfl rfl;have Z:=aA a.2.2.1 rfl rfl;clear f a;go_simp;exact n _ _ zR rfl
     ·subst g;have B:=aA a.1 rfl rfl;have L:=aA a.2.1 rfl rfl;clear f a;go_simp
      go_at_call 28
      refine(VV d ((Q.1).keep (.old s)) ((Q.2).keep (.old s))).mono ?_;rintro e w2 ⟨q,rfl,h3,Y⟩;exact n _ _ Y (zGv Value.bool (zHe.2 (h3.trans HH.symm)))
     ·have B:=aA a.1 rfl rfl;have L:=aA a.2.1 rfl rfl;clear f a;cases p<;>(go_simp;exact n _ _ zR rfl)
     intro qx t s f a;clear f a;simp only[bJ,List.length,List.take,List.drop,zFd]
     go_frame
     have B:=zH (E.trans (s.mono E.size));go_wp2_with fail
     go_roundw
     case rel=>exact⟨_,j+1,M,rfl,by go_num,B⟩
     case measure=>simp[intOf];omega
    obtain rfl:j=k:=by omega
    have L:=E.size;cases p
    ·obtain⟨b,o,rfl,hb,u,f⟩:=(J.old (r.2.1.trans (E.mono D))).elem G;have F:=(r.2.2.old E.out).old (ba wr (.cells ns[j].cells.toArray 122))
     have Y:Hid (okS (λq=>(S q/\q<w.heap.size\/w.heap.size<=q)/\some q≠(Value.slice W m P).ownBlock) d ns[j] wr):=zH (u.keep λq a y=>⟨⟨.inl a,λe=>by
      have:=(r.2.2.lt e.symm).1;have:=a.2
      omega⟩,y,rfl⟩)
     have B:=zH (r.2.1.trans (E.mono D));obtain⟨cs,a⟩:=zN (ns[j].cells)
     rw[a]at f F;have n:cs.length=7:=by rw[<-a];exact ah.len _
     have z:=zH a;clear a u;go_wp2_with (first|(refine aj dR rfl _ rfl rfl cs n f ?_)|(refine dC dR rfl _ rfl cs rfl n ?_)|(at_builtin;refine bu dR rfl _ _ rfl rfl F rfl cs (Bk.new _ _ _) ns[j] ⟨z.symm,Y.keep (dB.old (ba _ _))⟩ (by rw[H.out];have:=r.1;omega) (by simp;omega) ?_;intro Z c9 w9 a u fV sH))
     rw[H.out]at a⊢;go_roundw
     case rel=>exact⟨j+1,_,y,by go_num,zH ⟨by simp[H.out];exact r.1,u _ _ zL (by simp;omega) (B.alloc (by omega) _),a⟩⟩
     case measure=>simp[intOf];omega
    go_wp2_with fail
    go_roundw
    case rel=>exact⟨j+1,I,y,by go_num,zH ⟨by rw[H.out];exact zLa r.1,r.2.1.trans (E.mono D),r.2.2.old E.out⟩⟩
    case measure=>simp[intOf];omega
  have a:k=l:=by omega
  subst a;go_wp2_with fail
  go_ret
  refine⟨W,P,I,by rw[H.out];rfl,by rw[H.out];exact r.1,?_,r.2.1⟩;rw[H.out];exact r.2.2.wide (λb hb=>hb.imp And.left id) zL
theorem zE0 {d N:Nat} {S:Nat->Prop} {ax:Int} {ks:List Int} {bs:List dL} {cs:List Value} {w:World} (h:dO d S ax ks bs cs w) (hG:qy N bs) (hN:N<=1048576):Calls prog 22 #[.agg cs.toArray] w (Ol d N ax ks w):=by
 have e:=h;obtain⟨kv,bv,rfl,hk,hb⟩:=h;obtain⟨Ak,ck,rfl⟩:=hk.form;obtain⟨Ab,cb,rfl⟩:=hb.form;clear hk hb
 go_enter func22,ntmps22
 go_upto_region 1 with fail
 have F:=(Bk.new w 29 #[ax,.slice Ak ks.length ck,.slice Ab bs.length cb]).alloc (.cells #[(),"",""] 29);have k2:=Bk.newAt (w:=w.alloc (.cells #[ax,.slice Ak ks.length ck,.slice Ab bs.length cb] 29)) (g:=w.heap.size+1) (by simp) 29 #[(),"",""];have l:=bel2 w (.cells #[ax,.slice Ak ks.length ck,.slice Ab bs.length cb] 29) (.cells #[(),"",""] 29);generalize(w.alloc (.cells #[ax,.slice Ak ks.length ck,.slice Ab bs.length cb] 29)).alloc (.cells #[(),"",""] 29)=X at *;have D:=zH (Qb (e.old l));have HG:=zH hG;have Tm:=k2.lt;clear e hG;go_wp2_with (refine aV aP eF rfl (.tmp 1) rfl rfl [.int .i64 ax,.slice Ak ks.length ck,.slice Ab bs.length cb] rfl (λj u hu=>by rw[zFr,F.cell j];simpa using hu) ?_)
 refine D.mono ?_;rintro e w2 ⟨kv,bv,jq,B,rfl,o,b2,b7,f,y,t⟩;obtain⟨qm,E,rfl⟩:=f.form;obtain⟨zD,m,rfl,_⟩:=aK y.dJ;obtain⟨n,A⟩:=zN jq.length
 rw[A]at y⊢;have Bj:=zH A;have k2:=k2.old t;have r:=zH (l.trans (t.mono l.size));have qM:=zH (zA o (zA f y));clear o f y t l F D A;go_upto_region 2 with(refine ae aP rfl _ _ rfl rfl [.int .i64 ax,.slice qm ks.length E,.slice zD n m] rfl (Bk.new _ _ _) rfl rfl rfl ?_;intro W p;go_frame)
 have f:Below w2 w2 W:=p.below _ _ (ba _ _) zL;have b3:W.heap.size=w2.heap.size+1:=by rw[p.size];simp
 have HW:=zH (zA (r.trans (f.mono r.size)) (zA (k2.old f) (zA p.bk (zA (qM.2.1.keep (.old f)) (qM.2.2.old f)))));have x2:=p.bk.cell 2;have av:n<=4:=by have:=HG.nb;rw[<-qM.1]at this;simpa[Bj.out]using this
 clear p f k2 r;go_wp2_with fail
 go_loopw[12] (λi wr=>∃k:Nat,k<=n/\i=.int .i64 k/\Hid (Below B W wr/\W.heap.size<=wr.heap.size/\Bk wr w2.heap.size 29 #[ax,.slice qm ks.length E,.slice zD n m]/\∃xs,iC B d (.slice zD n m) xs wr/\mX xs=mX jq/\Gx N xs)) (λi _=>n-(intOf i).toNat)
 case atStart=>exact⟨0,zFj _,rfl,zH ⟨zGp _ _,zFv _,HW.2.2.1,jq,HW.2.2.2.2,rfl,.of (by rw[qM.1];exact HG.out)⟩⟩
 case round=>
  obtain⟨k,hk,rfl,R⟩:=hrel;obtain⟨P,rfl⟩:∃z:World,z=wr:=⟨_,rfl⟩
  have Nb:=R.2.1
  by_cases a0:k<n
  ·obtain⟨xs,y,o,rY⟩:=R.2.2.2;have a2:k<jq.length:=by rw[Bj.out];exact a0
   obtain⟨l,s1,I,s3,s4,_⟩:=wR o a2;obtain⟨g,cs,f,b6,ar,⟨rfl,_⟩,G⟩:=(y.bd (S:=λ_=>True)).elem l;subst f;obtain⟨J,D⟩:=zN (jq[k].ps.length)
   obtain⟨Ap,r,F,_⟩:=aK (y.prt _ (zFe l));rw[s4,D]at F;have an:=zH (s3.symm.trans F);have A:xs[k].cells=[.int .i64 xs[k].id,.int .i64 xs[k].window,.slice Ap J r]:=by unfold bQ.cells;rw[F]
   rw[A]at G
   have b0:J<=8:=by
    have:=(HG.ps (b:=fJ d jq[k]) (by rw[<-qM.1];exact zGa.2 ⟨_,zFe a2,rfl⟩)).2;rw[<-D]
    simpa[fJ]using this
   have P5:=zH D;obtain⟨kL,H⟩:∃z:Nat,xs[k].id=z:=⟨_,rfl⟩
   obtain⟨win,t⟩:=zN (xs[k].window)
   rw[H,t]at G;go_upto_region 5 with(first|(refine aj gW rfl _ rfl rfl [.int .i64 kL,.int .i64 win,.slice Ap J r] rfl G ?_)|(refine ae (aY gW.1) rfl _ _ rfl rfl [.int .i64 kL,.int .i64 win,.slice Ap J r] rfl (Bk.new _ _ _) rfl rfl rfl ?_;intro W1 p1;go_frame))
   have f:Below P P W1:=p1.below _ _ (ba _ _) zL;have aw:W1.heap.size=P.heap.size+1:=by rw[p1.size];simp
   have Qk:B<=P.heap.size:=by omega
   have ab:Hid (Below B W W1/\W1.heap.size<=W1.heap.size/\Bk W1 w2.heap.size 29 #[ax,.slice qm ks.length E,.slice (some ⟨g,0,none⟩) n m]/\Bk W1 P.heap.size 67 #[kL,win,.slice Ap J r]/\∃xs,iC B d (.slice (some ⟨g,0,none⟩) n m) xs W1/\mX xs=mX jq/\Gx N xs):=zH ⟨R.1.trans (f.mono Qk),zFv _,R.2.2.1.old f,p1.bk,xs,y.old f,o,rY⟩;have y2:=p1.bk.cell 2;clear p1 G y rY A F f H t s1 I s3 s4 o D;go_wp2_with fail
   go_loopw[19] (λi wr=>∃j:Nat,j<=J/\i=.int .i64 j/\Hid (Below B W wr/\W1.heap.size<=wr.heap.size/\Bk wr w2.heap.size 29 #[ax,.slice qm ks.length E,.slice (some ⟨g,0,none⟩) n m]/\Bk wr P.heap.size 67 #[kL,win,.slice Ap J r]/\∃xs,iC B d (.slice (some ⟨g,0,none⟩) n m) xs wr/\mX xs=mX jq/\Gx N xs)) (λi _=>J-(intOf i).toNat)
   case atStart=>exact⟨0,zFj _,rfl,ab⟩
   case round=>
    obtain⟨j,hj,rfl,O⟩:=hrel;obtain⟨wl,rfl⟩:∃z:World,z=wr:=⟨_,rfl⟩
    have aq:=O.2.1
    by_cases a4:j<J
    ·obtain⟨xs,y,o,rY⟩:=O.2.2.2.2;obtain⟨l,_,_,s3,s4,_⟩:=wR o a2;have H:j<xs[k].ps.length:=by rw[s4,P5.out];exact a4
     obtain⟨gp,cp,F,a6,am,t,ag,I⟩:=y.s.part l H;have al:=(s3.trans an.out).symm.trans F;injection al with e1 L e3
     subst e1 e3;have G:xs[k].parts.ownBlock=some gp:=by rw[F];rfl
     obtain⟨Y,U,q3⟩:=rY _ (zFe l) _ (zFe H);have f:=y.nd l H false (zFi Y hN);have Z:=y.nd l H true (zFi U hN);obtain⟨gv,D⟩:=zN (xs[k].ps[j].g)
     obtain⟨cv,A⟩:=zN (xs[k].ps[j].c)
     obtain⟨pf,Lm⟩:=zN (xs[k].ps[j].form)
     obtain⟨pt,Q⟩:=zN (xs[k].ps[j].type)
     have K:xs[k].ps[j].cells=[.int .i64 pf,.int .i64 pt,gv,cv]:=by unfold aZ.cells;rw[D,A,Lm,Q]
     simp only[rowA,cond_false,cond_true,D]at f;simp only[rowA,cond_false,cond_true,A]at Z;rw[K]at t;have z2:=t 2 _ rfl;have z3:=t 3 _ rfl;have y2:=O.2.2.2.1.cell 2;have mJ:=zH (zA f Z);have Az:=zH (zA y (zA o (zA rY (zA Y (zA U q3)))));have Oh:=zH (zA I G);obtain⟨M,hM⟩:∃M:Nat->Nat,M=λk'=>if k'=12 then xs[k].ps[j].gs.length else xs[k].ps[j].cs.length:=⟨_,rfl⟩
     have HM:=zH hM;have a3:P.heap.size≠gp:=λe=>aN (y.prt _ (zFe l)) O.2.2.2.1 (by decide) (by rw[G,e])
     have Wv:gp<wl.heap.size:=am;clear t f Z y o rY Y U q3 D A Lm Q K hM s3 s4 F G I L;go_upto_region 8 with fail
     refine wj ⟨λk => k == 12 || k == 19, λb k' lo hi v w => wl.heap.size ≤ lo ∧ ∃ (A : Option Addr) (c : Nat) (ns : List ah), v = .slice A ns.length c ∧ ns.length ≤ (if k' = 12 then xs[k].ps[j].gs.length else xs[k].ps[j].cs.length) ∧ Sj (λq => B ≤ q ∧ q < wl.heap.size ∧ aJ (.slice (some ⟨g, 0, none⟩) n m) xs q) d lo hi ns v w ∧ (k' = 12 → b = true → ∃ X, Below wl wl X ∧ Sj (λq => B ≤ q ∧ q < wl.heap.size ∧ aJ (.slice (some ⟨g, 0, none⟩) n m) xs q) d lo hi ns v X ∧ Below X.heap.size (X.setCell ⟨gp, j * 4 + 2, none⟩ v) w),
       λhb ⟨K,A,c,ns,U,Z,h4,h5⟩=>⟨K,A,c,ns,U,Z,h4.old hb,λe1 L=>by obtain⟨X,t,i2,f⟩:=h5 e1 L;exact⟨X,t,i2,f.trans (hb.mono (by have:=f.size;simpa using this))⟩⟩⟩ 22 (some gp)
      [.is (.pointer (some ⟨P.heap.size,2,none⟩)),.is (.slice (some ⟨gp,0,none⟩) J r),.is (.int .i64 j),.is (.pointer (some ⟨P.heap.size,2,none⟩)),.is (.slice (some ⟨gp,0,none⟩) J r),.is (.int .i64 j),.is (.pointer (some ⟨P.heap.size,2,none⟩)),.is (.slice (some ⟨gp,0,none⟩) J r),.is (.int .i64 j),.is (.pointer (some ⟨gp,j*4,none⟩)),.is (.pointer (some ⟨gp,j*4+2,none⟩)),.is gv,sF,.is (.pointer (some ⟨P.heap.size,2,none⟩)),.is (.slice (some ⟨gp,0,none⟩) J r),.is (.int .i64 j),.is (.pointer (some ⟨gp,j*4,none⟩)),.is (.pointer (some ⟨gp,j*4+3,none⟩)),.is cv,sF,.is (.pointer (some ⟨gp,j*4,none⟩)),.is (.pointer (some ⟨gp,j*4+2,none⟩)),.any] [9,10,12,16,17,19,20,21,22,4] (by kernel_rfl) (by kernel_rfl) (by kernel_rfl)
      (λC=>.c (.x (rG _) C rfl (λ_ _=>rfl)) <| .c (.b (rG _) C rfl (λ_ h=>bH (pX (bc h y2)))) <| .c (.x (rG _) C rfl (λ_ _=>rfl)) <| .c (.x (rG _) C rfl (λ_ _=>rfl)) <| .c (.a (rG _) [3] [] (by kernel_rfl) λY I Q hG D f t=>?_) <| .c (.x (rG _) C rfl (λ_ _=>rfl)) <| .c (.x (rG _) C rfl (λ_ _=>rfl)) <| .c (.b (rG _) C rfl (λ_ h=>bH (pX (bc h y2)))) <| .c (.x (rG _) C rfl (λ_ _=>rfl)) <| .c (.z (rG _) [7,8] [] (by kernel_rfl) λY I Q G D f t=>?_) <| .c (.z (rG _) [9] [] (by kernel_rfl) λY I Q G D f t=>?_) <| .c (.b (rG _) C rfl (λ_ h=>bH (jD (bc h z2)))) <| .c (.fj (rG _) [11] [] (by kernel_rfl) λY I Q G D f t=>?_) <| .c (.x (rG _) C rfl (λ_ _=>rfl)) <| .c (.b (rG _) C rfl (λ_ h=>bH (pX (bc h y2)))) <| .c (.x (rG _) C rfl (λ_ _=>rfl)) <| .c (.z (rG _) [14,15] [] (by kernel_rfl) λY I Q G D f t=>?_) <| .c (.z (rG _) [16] [] (by kernel_rfl) λY I Q G D f t=>?_) <| .c (.b (rG _) C rfl (λ_ h=>bH (jD (bc h z3)))) <| .c (.fj (rG _) [18] [] (by kernel_rfl) λY I Q G D f t=>?_) <| .c (.z (rG _) [1,2] [] (by kernel_rfl) λY I Q G D f t=>?_) <| .c (.z (rG _) [20] [] (by kernel_rfl) λY I Q G D f t=>?_) <| .c (.gj [21,12] [] (by kernel_rfl) λY I Q G D f t=>?_) .nil) ?_
     ·obtain⟨b,f⟩:=f;have a7:=QG f.1 rfl rfl;have yy:=(O.2.2.2.1.grown hG (λe=>a3 (by injection e))).cell 2;clear D f;go_simp;exact t _ zR
     ·have L:=aA f.1 rfl rfl;have e3:=aA f.2.1 rfl rfl;clear D f;go_simp;exact t _ _ zR rfl
     ·have L:=aA f.1 rfl rfl;clear D f;go_simp;exact t _ _ zR rfl
     ·have L:=aA f.1 rfl rfl;clear D f;go_simp
      go_at_call 52
      refine(Qj (mJ.1.old G)).mono ?_;intro e w2 h;obtain⟨A,c,ns,rfl,K,U,Z⟩:=h.own;exact t _ _ Z ⟨_,_,_,rfl⟩ ⟨G.size,A,c,ns,rfl,K,U,λ_ h=>by cases h⟩
     ·have L:=aA f.1 rfl rfl;have e3:=aA f.2.1 rfl rfl;clear D f;go_simp;exact t _ _ zR rfl
     ·have L:=aA f.1 rfl rfl;clear D f;go_simp;exact t _ _ zR rfl
     ·have L:=aA f.1 rfl rfl;clear D f;go_simp
      go_at_call 52
      refine(Qj (mJ.2.old G)).mono ?_;intro e w2 h;obtain⟨A,c,ns,rfl,K,U,Z⟩:=h.own;exact t _ _ Z ⟨_,_,_,rfl⟩ ⟨G.size,A,c,ns,rfl,K,U,λ_ h=>by cases h⟩
     ·have L:=aA f.1 rfl rfl;have e3:=aA f.2.1 rfl rfl;clear D f;go_simp;exact t _ _ zR rfl
     ·have L:=aA f.1 rfl rfl;clear D f;go_simp;exact t _ _ zR rfl
     ·have a8:=aA f.1 rfl rfl;obtain⟨u,a1,A,nn,c,rfl⟩:=f.2.1;have a1:I.tmps[34]? =some (.slice A nn c):=a1;have c2:=bc G z2;have f2:Q.frozen? ⟨gp,j*4+2,none⟩=false:=by rw[<-ag (j*4+2)];simp only[World.frozen?,G.block gp Wv]
      clear D f;go_simp;refine t undef _ (eu (below_grown G (some gp))) (by simp) (λ_ e=>by cases e) ?_ trivial;rintro k' lo hi u hF hs ⟨K,A',c',ns,U,Z,h4,h5⟩;refine⟨K,A',c',ns,U,Z,h4.setA K Wv Oh.1,λa5 _=>⟨Q,G,h4,?_⟩⟩;subst a5;have hs:I.tmps[34]? =some u:=hs;rw[a1]at hs;injection hs with hs
      rw[<-hs];exact zGp _ _
     intro qx w3 a9 f;obtain⟨I,A,hD⟩:=f;obtain⟨i2,l2,Q,c2,f,r2,m2,_,t⟩:=A 12 (by simp) rfl;obtain⟨i5,l5,A5,c5,Iy,G,m5,o5,_⟩:=A 19 (by simp) rfl;obtain⟨b1,a8,o2,D⟩:=t rfl rfl;clear t;have Y:=hD 12 19 (by simp) (by simp) (by decide) rfl rfl;clear hD;clear A;simp only[bJ,List.length,List.take,List.drop,zFd]
     go_frame
     generalize qx 12=b5 at r2 o2 D⊢;generalize qx 19=b4 at G o5⊢;subst r2 G;have s1:=Az.1.one (c:=false) a8 D l H Oh.2 (by omega) o2 l2;obtain⟨Wx,a7,Wy⟩:=Hz (c:=false) (v:=.slice Q f.length c2) (ns:=f) l H;obtain⟨G,_,ad,_,_,af,ak,_⟩:=s1.part Wx Wy
     have t:G=gp:=by
      have:=Oh.2;rw[<-a7,ad]at this;injection this
     subst t;have ao:=af 3 xs[k].ps[j].c (by simp[fZ,updB,uZ,aZ.cells,zJj]);have ap:=ak (j*4+3);have a5:∀q,(Value.slice Q f.length c2).ownBlock=some q->(I 12).1<=q/\q<(I 12).2:=λq hq=>⟨(o2.1.lt q hq).1,o2.2.1 q hq⟩
     have A:=Az.1.two s1 l H Oh.2 (by omega) a5 o5 l2 l5 Y
     have a1:Gx N (fZ (fZ xs k j false (.slice Q f.length c2) f) k j true (.slice A5 Iy.length c5) Iy):=(Az.2.2.1.upd (zFi m2 Az.2.2.2.1) (λh=>by cases h)).upd (zFi m5 Az.2.2.2.2.1) λ_ b p K U Z=>by
      have e1:(fZ xs k j false (.slice Q f.length c2) f)[k].ps[j]=p:=by
       rw[zAg Wx]at K;injection K with K
       subst K;rw[zAg Wy]at U;injection U
      have L:p.form=xs[k].ps[j].form:=by rw[<-e1];simp[fZ,updB,uZ,zJj]
      have e3:=Az.2.2.2.2.2 (by rw[<-L];exact Z);have m5:Iy.length<=xs[k].ps[j].cs.length:=m5;rw[e3]at m5;exact zHa (Nat.le_zero.1 m5)
     have L:=(rE (fZ xs k j false (.slice Q f.length c2) f) k j true (.slice A5 Iy.length c5) Iy).trans ((rE xs k j false (.slice Q f.length c2) f).trans Az.2.1)
     have a6:B<=G:=by
      have:=(Az.1.prt _ (zFe l)).lt G Oh.2;omega
     have aa:G≠w2.heap.size:=λe=>aN (Az.1.prt _ (zFe l)) O.2.2.1 (by decide) (by rw[Oh.2,e])
     have t:=zH (zA A (zA L (zA a1 (zA a9 (zA a6 aa)))));clear A L a1 s1 o2 o5 a8 D Y;go_wp2_with fail
     go_roundw
     case rel=>exact⟨j+1,a4,by go_num,zH ⟨(O.1.grown t.2.2.2.1 (by omega) λk hk=>by injection hk with hk;omega).setCell t.2.2.2.2.1 _,by have:=t.2.2.2.1.size;simp;omega,(O.2.2.1.grown t.2.2.2.1 (λe=>t.2.2.2.2.2 (by injection e with e;exact e.symm))).far (p:=⟨G,j*4+3,none⟩) (λe=>t.2.2.2.2.2 e.symm) _,(O.2.2.2.1.grown t.2.2.2.1 (λe=>a3 (by injection e))).far (p:=⟨G,j*4+3,none⟩) a3 _,_,t.1,t.2.1,t.2.2.1⟩⟩
     case measure=>simp[intOf];omega
    obtain rfl:j=J:=by omega
    go_wp2_with fail
    go_roundw
    case rel=>exact⟨k+1,a0,by go_num,zH ⟨O.1,by omega,O.2.2.1,O.2.2.2.2⟩⟩
    case measure=>simp[intOf];omega
  obtain rfl:k=n:=by omega
  obtain⟨xs,y,o,rY⟩:=R.2.2.2;have L:=R.2.2.1.cell 0;have G:=HW.2.1.below (B:=B) R.1 (by omega);have t:=zH (zA y (zA o rY));clear y o rY;go_wp2_with (first|(refine aV aP eF rfl (.tmp 3) rfl rfl [.int .i64 ax,.slice qm ks.length E,.slice zD k m] rfl (λj u hu=>by rw[zFr,R.2.2.1.cell j];simpa using hu) ?_)|(refine ae aP rfl _ _ rfl rfl [.int .i64 ax,.slice qm ks.length E,.slice zD k m] rfl G rfl rfl rfl ?_;intro V p))
  obtain⟨I,K,H⟩:=zc3 p.bk;have A:Below w.heap.size w P:=HW.1.trans (R.1.mono (by omega));have f:Sl gK (λq=>X.heap.size<=q/\q<B) ks (.slice qm ks.length E) V:=(HW.2.2.2.1.keep (S':=λq=>X.heap.size<=q/\q<B) λb hb a0=>⟨hb,by omega,R.1.block b hb.2⟩).keep (dB.fE p λb hb=>by omega);have D:=(t.1.grown p.grown (by omega)).plan (ax:=ax) (S':=λq=>w.heap.size<=q) f (λq hq=>by omega) (λq hq=>by omega) (.of (by rw[qM.1];exact HG.out) t.2.1 t.2.2) hN;exact zFg (v:=.agg #[ax,.slice qm ks.length E,.slice zD k m]) (by simp[results,results22,go_sem,I,K,H]) rfl ⟨[_,_,_],_,rfl,D,.of (by rw[qM.1];exact HG.out) t.2.1 t.2.2,p.below _ _ A (by omega)⟩
def w0B (b:bQ):bQ:={b with window:=0}
def F9 (k:Nat) (xs ys:List bQ):Prop:=(ys.map w0B).Sublist ((xs.take k).map w0B)/\∀y∈ys,0<=y.window/\y.window<=1152921504606846976
theorem F9.skip {k:Nat} {xs a:List bQ} (h:F9 k xs a):F9 (k+1) xs a:=⟨h.1.trans ((List.take_sublist_take_left (zJ9 k)).map _),h.2⟩
theorem F9.snoc {k:Nat} {xs b:List bQ} (h:F9 k xs b) (d:k<xs.length) {y:bQ} (c:w0B y=w0B xs[k]) (e:0<=y.window/\y.window<=1152921504606846976):F9 (k+1) xs (b++[y]):=by
 refine⟨?_,λz a=>?_⟩
 ·rw[zGc d,zGr,zGr];exact h.1.append (by simp[c])
 rcases zFy.1 a with a|a
 ·exact h.2 z a
 rw[zG3.1 a];exact e
theorem F9.upd {k i:Nat} {c:Bool} {v:Value} {ns:List ah} {xs b:List bQ} (h:F9 k xs b):F9 k (fZ xs k i c v ns) b:=by
 have e:(fZ xs k i c v ns).take k=xs.take k:=by
  apply zJ1
  intro j;simp only[zK7,fZ,zHi]
  by_cases a:j<k
  ·have:¬k=j:=by omega
   simp[a,this]
  simp[a]
 exact⟨by rw[e];exact h.1,h.2⟩
theorem F9.mem {k:Nat} {xs a:List bQ} (h:F9 k xs a) {y:bQ} (d:y∈a):∃b∈xs,b.id=y.id/\b.parts=y.parts/\b.ps=y.ps:=by
 have e:=h.1.subset (zGa.2 ⟨y,d,rfl⟩);obtain⟨b,hb,c⟩:=zGa.1 e;unfold w0B at c;injection c with e1 _ e2 e3
 exact⟨b,zKu hb,e1,e2,e3⟩
theorem F9.len {k:Nat} {xs a:List bQ} (h:F9 k xs a):a.length<=xs.length:=by
 have:=h.1.length_le;simp only[zF5,zG9]at this;omega
theorem F9.bs {d N k:Nat} {xs g j:List bQ} (h:F9 k xs g) (o:qy N (j.map (fJ d))) (m:mX xs=mX j) (t:Gx N xs):qy N (g.map (fJ d)):=by
 have c:=qy.of o m t;refine⟨by have:=c.nb;have:=h.len;simp at *;omega,?_,λb hb=>?_,λb hb p r=>?_⟩
 ·have e:∀l:List bQ,(l.map (fJ d)).map (λb=>b.id)=(l.map w0B).map λb=>b.id:=λl=>by simp[fJ,w0B,Function.comp_def]
  have i:=c.ids;rw[e]at i⊢;exact i.sublist (((h.1.trans ((List.take_sublist _ _).map _)).map _).append_right _)
 ·obtain⟨y,a,rfl⟩:=zGa.1 hb;obtain⟨b,hb,n,v,f⟩:=h.mem a;obtain⟨_,s,q,u⟩:=c.sg _ (zGa.2 ⟨b,hb,rfl⟩);refine⟨h.2 y a,?_,?_,?_⟩<;>simp only[KP,fJ,f]at s q u⊢<;>assumption
 obtain⟨y,a,rfl⟩:=zGa.1 hb;obtain⟨b,hb,n,v,f⟩:=h.mem a;exact c.rows _ (zGa.2 ⟨b,hb,rfl⟩) p (by simpa[fJ,f]using r)
theorem F9.sl {d N k base B:Nat} {S:Nat->Prop} {G:Nat->Prop} {bv v:Value} {xs g:List bQ} {w:World} (h:F9 k xs g) (t:iC B d bv xs w) (F:Gx N xs) (j:N<=1048576) (C:∀b∈xs,b.ps.length<=8) (a:xs.length<=4) (l:∀q,B<=q->S q) (hb:B<=base) (u:Bd G base 67 3 BvP g v w):Sl (xh d) S (g.map (fJ d)) v w:=by
 obtain⟨ps,m,n,r⟩:=u;obtain⟨A,c,rfl,_⟩:=aK n;have J:=h.len;refine⟨A,c,by rw[zF5],by rw[zF5];omega,ps.map λp=>(fJ d p.1,p.2),by rw[<-m,zHh,zHh];rfl,?_,λq s=>?_⟩
 ·rw[zHw];exact(gX n).keep λb f e=>⟨l b (by omega),e,rfl⟩
 obtain⟨p,f,rfl⟩:=zGa.1 s;obtain⟨b,hb,I,H,D⟩:=h.mem (y:=p.1) (by rw[<-m];exact zGa.2 ⟨p,f,rfl⟩)
 obtain⟨i,a,x⟩:=t.brS (S:=S) (λz e=>by
  obtain⟨b,hb,e⟩:=zGn.1 e;obtain⟨p,f,e⟩:=zGn.1 e;obtain⟨o,E,_⟩:=F b hb p f;simp only[dQ,zF6,zGi,zHt]at e;rcases e with rfl|rfl
  ·exact zFi o j
  exact zFi E j) l hb (by have:=C b hb;omega)
 have o:b.parts=i:=by
  unfold bQ.cells at a;injection a with _ a
  injection a with _ a
  injection a
 refine⟨i,?_,?_⟩
 ·rw[(r p f).1,<-o,H];rfl
 have:(fJ d p.1).ps=(fJ d b).ps:=by unfold fJ;rw[D]
 show Sl (KI d) S (fJ d p.1).ps i w
 rw[this];exact x
theorem okS.arg {S:Nat->Prop} {d:Nat} {n:ah} {w:World} (h:okS S d n w):∃(op kind:Int) (A:Option Addr) (c:Nat) (e:List ah) (vk:Int) (vb:Nat) (pos a:Int),n=.mk op kind A c e vk vb pos a/\vb<18446744073709551616/\e.length<=1048576/\
  ∀i (f:i<e.length),∃b o,A=some ⟨b,o,none⟩/\(∃g,okS S g e[i] w)/\∀(j:Nat) (u:Value),e[i].cells[j]? =some u->w.cell? ⟨b,o+i*7+j,none⟩=some u:=by
 match d,n,h with
 |d+1,.mk op kind A c e vk vb pos a,⟨k,p,m,q⟩=>
  refine⟨op,kind,A,c,e,vk,vb,pos,a,rfl,m,p,λi f=>?_⟩;rcases k with s|⟨b,o,l,v,t,r⟩
  ·have:=jl (n:=7) ah.cells e λx _=>x.len
   rw[s]at this;simp at this;omega
  exact⟨b,o,l,⟨d,q _ (zFe f)⟩,λj u g=>by
   rw[zJb]
   exact r _ _ (by rw[jd (n:=7) ah.cells e (λx _=>x.len) i j f (by have:=(zFc.1 g).1;rwa [ah.len]at this)];exact g)⟩
def Tn (z gl gb B1:Nat) (cl cb:Array Value) (ys:List bQ) (v:Value) (w:World):Prop:=z<=w.heap.size/\Bk w gl 29 cl/\Bk w gb 67 cb/\Bd (λ_=>False) B1 67 3 BvP ys v w
section
variable {z gl gb B1:Nat} {cl cb:Array Value} {ys:List bQ} {v:Value} {w w':World} (h:Tn z gl gb B1 cl cb ys v w)
include h
theorem Tn.old (hb:Below w w w'):Tn z gl gb B1 cl cb ys v w':=⟨zFi h.1 hb.size,h.2.1.old hb,h.2.2.1.old hb,h.2.2.2.old hb⟩
theorem Tn.row {B n:Nat} {u:Value} {cs:List Value} (b:w.ownsRow B 122 7 u n cs) (a:w.grownBy w' u.ownBlock):Tn z gl gb B1 cl cb ys v w':=by
 obtain⟨ps,c,d,e⟩:=h.2.2.2;exact⟨zFi h.1 a.size,h.2.1.grown a (aN b h.2.1 (by decide)),h.2.2.1.grown a (aN b h.2.2.1 (by decide)),ps,c,bU d b (by decide) a,e⟩
theorem Tn.set {B n gp i:Nat} {c u:Value} {cs:List Value} (f:w.ownsRow B 69 4 c n cs) (d:c.ownBlock=some gp):Tn z gl gb B1 cl cb ys v (w.setCell ⟨gp,i,none⟩ u):=by
 have b:∀{g t:Nat} {a:Array Value},Bk w g t a->69≠t->g≠gp:=λa j e=>aN f a j (by rw[d,e])
 obtain⟨ps,k,j,l⟩:=h.2.2.2
 exact⟨by simpa using h.1,h.2.1.far (p:=⟨gp,i,none⟩) (b h.2.1 (by decide)) u,h.2.2.1.far (p:=⟨gp,i,none⟩) (b h.2.2.1 (by decide)) u,ps,k,zGw j (λe=>by
  rcases own_ne j f (by decide)with a|a
  ·rw[e]at a;cases a
  exact a (e.trans d.symm)) u,l⟩
theorem Tn.win (b:v.ownBlock≠some gb) (a:gl≠gb) (u:Value):Tn z gl gb B1 cl (cb.setIfInBounds 1 u) ys v (w.setCell ⟨gb,1,none⟩ u):=by
 obtain⟨ps,c,e,d⟩:=h.2.2.2;exact⟨by simpa using h.1,h.2.1.far (p:=⟨gb,1,none⟩) a u,h.2.2.1.put 1 u,ps,c,zGw e b u,d⟩
end
theorem DW.set {K:Nat->Prop} {B d:Nat} {bv:Value} {k i:Nat} {c:Bool} {x:Nat} {vl:Value} {m:List ah} {v:Value} {f:List ah} {xs:List bQ} {w:World} {g j:Nat} {u:Value} (h:DW K B d bv k i c x vl m v f xs w) (o:aJ bv xs g) (l:¬K g) (y:v.ownBlock≠some g):DW K B d bv k i c x vl m v f xs (w.setCell ⟨g,j,none⟩ u):=by
 obtain⟨ps,n,t,r⟩:=h.st
 exact⟨h.pl.Ql (eu (zF8 w (some g))) λq a=>by
  injection a with a
  subst a
  exact⟨o,λh=>l h.1⟩,h.row,⟨ps,n,zGw t y u,λp s=>CK.keep (P:=Hy d) (dB.set λb hb=>⟨hb,λe=>l (by rw[<-(show b=g from e)];exact hb.1.1)⟩) (r p s)⟩,h.ap,h.sl⟩
theorem qw.Y9 {K:Nat->Prop} {B d:Nat} {bv:Value} {xs:List bQ} {w:World} {g t:Nat} {cs:Array Value} (h:qw K B d bv xs w) (a:Bk w g t cs) (e:67≠t) (i:69≠t) (f:122≠t):aJ bv xs g:=
 ⟨aN h.dJ a e,λb hb=>aN (h.prt b hb) a i,λz c=>aN (h.mO z c) a f⟩
end Go.Proofs.YtbjnhllkdilpfaaGreat
