/- Part 55 of the proof. No conditions. -/
import Derived.Test.YtbjnhllkdilpfaaGreatZf54
set_option linter.unusedVariables false
set_option linter.unusedSimpArgs false
set_option maxRecDepth 100000
set_option maxHeartbeats 16000000
namespace Go.Proofs.YtbjnhllkdilpfaaGreat
open Go.RowKit _root_.Go.Proofs.Tryz
def Ic (b:dL):Prop:=∀p l,b.ps=p::l->p.form≠3
def Ie (b:dL) (P:List Nat) (n k:Nat):fQ:={vN b P n k with ends:=[]}
def oD (b:dL) (P:List Nat) (bD:List fQ):Nat->List fQ
 |0=>bD
 |k+1=>oD b P bD k++[Ie b P (oD b P bD k).length k]
theorem rM (b:dL) (P:List Nat) (a:List fQ):∀k,(oD b P a k).length=a.length+k
 |0=>rfl
 |k+1=>by rw[oD,zFu,rM b P a k];rfl
theorem F6 (b:dL) (P:List Nat) (a:List fQ):∀k,k<P.length->lq b P a k=oD b P a k
 |0,_=>rfl
 |k+1,h=>by
  have c:=F6 b P a k (by omega);rw[lq,oD,c]
  congr 2
  unfold Ie vN;simp only[zF2 (show¬(k+1=P.length) by omega)]
structure BdV (b:dL) (P:List Nat) (bD:List fQ) (i:Nat) (pre:List Nat) (x:Ou):Prop where
 pe:P=pre++jf i (b.ps.drop i)
 se:x.bD=oD b P bD pre.length
 par:x.parent=if pre.length=0 then -1 else((bD.length+pre.length:Nat):Int)-1
 bars:x.bars=if pre.length=0 then[]else jo b.ps (pre.getD (pre.length-1) 0+1) i
 lv:x.lv=if pre.length=0 then[]else(Su b.ps (pre.getD (pre.length-1) 0)).cs
 zero:pre.length=0->i=0
 last:0<pre.length->pre.getD (pre.length-1) 0<i
 len:bD.length+pre.length<=32
theorem yC {a l:List Nat} {i:Nat}:(a++i::l).getD a.length 0=i:=by
 rw[zGy,zGd zL,zJi];rfl
theorem Wi {a l:List Nat} {k:Nat} (h:k<a.length):(a++l).getD k 0=a.getD k 0:=by
 rw[zGy,zGy,zGh h]
theorem OB (b:dL) (P:List Nat) (f:List fQ) (o:Ic b):∀(m i:Nat) (a:List Nat) (x:Ou),b.ps.length-i=m->i<=b.ps.length->BdV b P f i a x->
  (f.length+P.length<=32->∃y,iL b.window (b.ps.drop i) x=some y/\BdV b P f b.ps.length P y)/\(32<f.length+P.length->iL b.window (b.ps.drop i) x=none)
 |0,i,a,x,t,v,h=>by
  obtain rfl:i=b.ps.length:=by omega
  have c:P=a:=by
   have:=h.pe;rw[zFq zL]at this
   simpa[jf]using this
  subst c;rw[zFq zL];exact⟨λ_=>⟨x,rfl,h⟩,λw=>absurd h.len (by omega)⟩
 |m+1,i,a,x,t,v,h=>by
  have l:i<b.ps.length:=by omega
  have g:=zFk l;obtain⟨p,k⟩:=zN (b.ps[i])
  rw[k]at g;have d:=h.pe;rw[g,jf]at d;rw[g,iL]
  by_cases c:p.form=3
  ·have q:0<a.length:=by
    rcases zJn a.length with e|e
    ·exfalso;have j:=h.zero e;subst j;rw[zFp]at g;exact o _ _ g c
    exact e
   rw[zF3 c]at d;rw[rH,zF3 c];refine OB b P f o m (i+1) a _ (by omega) (by omega) ⟨d,h.se,h.par,?_,h.lv,λe=>by omega,λe=>by have:=h.last e;omega,h.len⟩;have hb:=h.bars;rw[zF2 (by omega)]at hb;rw[zF2 (by omega),DJ (by have:=h.last q;omega) l,k,<-hb]
  rw[zF2 c]at d;rw[rH,zF2 c];have n:x.bD.length=f.length+a.length:=by rw[h.se,rM]
  have z:a.length+1<=P.length:=by rw[d];simp
  by_cases j:x.bD.length=32
  ·rw[zF3 j];exact⟨λw=>by omega,λ_=>rfl⟩
  rw[zF2 j];refine OB b P f o m (i+1) (a++[i]) _ (by omega) (by omega) ⟨by rw[d];simp,?_,?_,?_,?_,λe=>by simp at e,λ_=>?_,?_⟩
  ·rw[zFu]
   show x.bD++_=oD b P f (a.length+1)
   rw[oD,h.se]
   congr 2
   unfold Ie vN;rw[rM];have u:P.getD a.length 0=i:=by rw[d];exact yC
   have s:Su b.ps i=p:=(BC l).trans k;rw[u,s,h.par,h.bars,h.lv];rcases zJn a.length with e|e
   ·rw[e];simp
   have r:P.getD (a.length-1) 0=a.getD (a.length-1) 0:=by rw[d];exact Wi (by omega)
   rw[r];simp only[zF2 (show¬a.length=0 by omega),zF3 e]
  ·rw[zFu]
   show((x.bD.length:Nat):Int)=_
   rw[n,zF2 (by simp)];simp;omega
  ·rw[zFu]
   show([]:List qh)=_
   rw[zF2 (by simp)];have:(a++[i]).getD (a.length+[i].length - 1) 0=i:=yC;rw[this];unfold jo;rw[zJi];rfl
  ·rw[zFu]
   show p.cs=_
   rw[zF2 (by simp)];have:(a++[i]).getD (a.length+[i].length - 1) 0=i:=yC;rw[this,BC l,k]
  ·rw[zFu];have:(a++[i]).getD (a.length+[i].length - 1) 0=i:=yC;rw[this];omega
  have:=h.len;rw[zFu];simp;omega
theorem Wj (A:List fQ) (s:fQ) (f:fQ->fQ):(A++[s]).modify A.length f=A++[f s]:=by
 rw[DI (by simp)];simp
theorem zC6 (b:dL) (P:List Nat) (a:List fQ) (x:Ou) (h:BdV b P a b.ps.length P x):oz b.id x=lq b P a P.length:=by
 unfold oz;rcases zJn P.length with e|e
 ·have d:=h.par;rw[zF3 e]at d;rw[zF2 (by omega),h.se,e];rfl
 obtain⟨k,c⟩:∃k,P.length=k+1:=⟨P.length-1,by omega⟩
 have d:=h.par;have hb:=h.bars;have f:=h.lv;rw[zF2 (by omega),c]at d;rw[zF2 (by omega),c,Nat.add_sub_cancel]at hb f;have g:x.parent.toNat=(oD b P a k).length:=by rw[rM];omega
 rw[zF3 (by omega),h.se,c,g,oD,lq,F6 b P a k (by omega)];rw[Wj]
 congr 2
 unfold Ie vN;simp only[zF3 (show k+1=P.length from c.symm),List.nil_append,hb,f]
theorem DL:∀(bs:List dL) (a:List fQ),a.length<=(lu bs a).length
 |[],a=>zFv _
 |b::l,a=>by
  have:=DL l (lq b (jf 0 b.ps) a (jf 0 b.ps).length);rw[nP]at this;rw[lu];omega
theorem Wl:∀(bs:List dL) (a:List fQ),(∀b∈bs,Ic b)->a.length<=32->mZ bs a=if 32<(lu bs a).length then none else some (lu bs a)
 |[],a,f,g=>by rw[mZ,lu,zF2 (by omega)]
 |b::l,a,f,g=>by
  have o:BdV b (jf 0 b.ps) a 0 [] ⟨-1,[],[],a⟩:=⟨by rw[zFp,List.nil_append],rfl,rfl,rfl,rfl,λ_=>rfl,λh=>by simp at h,by simpa using g⟩
  obtain⟨i,j⟩:=OB b (jf 0 b.ps) a (f b (by simp)) b.ps.length 0 [] _ (by omega) (zFj _) o;rw[zFp]at i j;rw[mZ,lu];have e:=DL l (lq b (jf 0 b.ps) a (jf 0 b.ps).length);rw[nP]at e
  by_cases d:a.length+(jf 0 b.ps).length<=32
  ·obtain⟨y,k,n⟩:=i d;rw[k]
   show mZ l (oz b.id y)=_
   rw[zC6 b _ a y n];exact Wl l _ (λc m=>f c (by simp[m])) (by rw[nP];exact d)
  rw[j (by omega),zF3 (by omega)]
theorem Y0 (ax:Int) (ks:List Int) (bs:List dL) (a:∀b∈bs,Ic b):pK ax ks bs=gU ax ks bs:=by
 unfold pK gU;rw[Wl bs [] a (by simp)]
 by_cases h:32<(lu bs []).length
 ·rw[zF3 h,zF3 h]
 rw[zF2 h,zF2 h]
section
set_option maxRecDepth 100000
set_option maxHeartbeats 16000000
theorem zDk {d:Nat} {S S':Nat->Prop} {ax:Int} {ks:List Int} {bs:List fQ} {cs a4:List Value} {w:World} (h1:wO d S ax ks bs cs w) (h2:wO d S' ax ks bs a4 w):Calls prog 11 #[.agg cs.toArray,.agg a4.toArray] w (Yes w):=by
 obtain⟨_,_,rfl,⟨Ak,ck,rfl,a9,hk⟩,⟨Ab,cb,rfl,a7,hb⟩⟩:=h1;obtain⟨_,_,rfl,⟨a0,Za,rfl,_,m⟩,⟨a2,N,rfl,_,l⟩⟩:=h2
 go_enter func11,ntmps11
 go_upto_region 1 with fail
 obtain⟨I,g⟩:=zN ks.length
 obtain⟨n,q⟩:=zN bs.length
 rw[g,q];rw[g]at a9;rw[q]at a7;obtain⟨Y,e⟩:=zN ((w.alloc (.cells #[ax,.slice Ak I ck,.slice Ab n cb] 38)).alloc (.cells #[ax,.slice a0 I Za,.slice a2 n N] 38))
 obtain⟨L,h⟩:=zN w.heap.size
 have s:Bk Y L 38 #[ax,.slice Ak I ck,.slice Ab n cb]:=e▸h▸(Bk.new _ _ _).alloc _;have r:Bk Y (L+1) 38 #[ax,.slice a0 I Za,.slice a2 n N]:=e▸Bk.newAt (by simp;omega) _ _;have a:Below w w Y:=e▸bel2 w _ _;simp only[e,h];have HR:=zH (zA (zA (hk.old a) (m.old a)) (zA (hb.old a) (l.old a)));have HB:=zH a;have HN:=zH (zA g q);have HK:=zH (zA s r);obtain⟨u,x1,x2⟩:=zc3 s;obtain⟨x,y1,y2⟩:=zc3 r;clear e h s r a hk m hb l g q;go_wp2_with fail
 clear u x1 x2 x y1 y2
 go_loopw[36] (λi wr=>∃(k:Nat),k<=I/\i=.int .i64 k/\Hid (Below Y Y wr)) (λi _=>I-(intOf i).toNat)
 case atStart=>exact⟨0,zFj _,rfl,zH zR⟩
 case round=>
  obtain⟨wq,rfl⟩:∃z:World,z=wr:=⟨_,rfl⟩
  obtain⟨k,hk,rfl,a⟩:=hrel;have x1:wq.cell? ⟨L,1,none⟩=some (.slice Ak I ck):=(HK.1.old a.out).cell 1;have y1:wq.cell? ⟨L+1,1,none⟩=some (.slice a0 I Za):=(HK.2.old a.out).cell 1
  by_cases K:k<I
  ·have D:k<ks.length:=by rw[HN.1];exact K
   obtain⟨b,o,cs,rfl,_,hb,rfl,A⟩:=(HR.1.1.old a.out).elem D;obtain⟨b2,u,a6,rfl,_,G,rfl,y⟩:=(HR.1.2.old a.out).elem D;generalize ks[k]=ty at *;have r0:wq.cell? ⟨b,o+k,none⟩=some (.int .i64 ty):=by simpa using A 0 _ rfl
   have s0:wq.cell? ⟨b2,u+k,none⟩=some (.int .i64 ty):=by simpa using y 0 _ rfl
   clear A y HR D;go_upto_region 6 with fail
   refine wx (λk => false) [.is (.pointer (some ⟨L, 1, none⟩)),
     .is (.slice (some ⟨b,o,none⟩) I ck),
     .is (.int .i64 (k:Nat)),
     .is (.pointer (some ⟨b,o+k,none⟩)),
     .is (.int .i64 ty),
     .is (.pointer (some ⟨L+1,1,none⟩)),
     .is (.slice (some ⟨b2,u,none⟩) I Za),
     .is (.int .i64 (k:Nat)),
     .is (.pointer (some ⟨b2,u+k,none⟩)),
     .is (.int .i64 ty),
     .is (.bool false)] [3,8,10] (by kernel_rfl) (by kernel_rfl) (by kernel_rfl)
     (λC=>.c (px C rfl (λ_ _=>rfl)) <|
     .c (px C rfl (λ_ h=>bH (Gq (bc h x1)))) <|
     .c (px C rfl (λ_ _=>rfl)) <|
     .c (pz [1,2] [] (by kernel_rfl) λM r wr B q g l=>?_) <|
     .c (px C rfl (λ_ h=>bH (lD (bc h r0)))) <|
     .c (px C rfl (λ_ _=>rfl)) <|
     .c (px C rfl (λ_ h=>bH (Gq (bc h y1)))) <|
     .c (px C rfl (λ_ _=>rfl)) <|
     .c (pz [6,7] [] (by kernel_rfl) λM r wr B q g l=>?_) <|
     .c (px C rfl (λ_ h=>bH (lD (bc h s0)))) <|
     .c (pz [4,9] [] (by kernel_rfl) λM r wr B q g l=>?_) <| .nil) ?_
   ·have s:=aA g.1 rfl rfl;have m:=aA g.2.1 rfl rfl;clear q g;go_simp;refine l _ _ zR ?_
    show(_:Value)=_
    first|rfl|(simp;done)|(simp;omega)
   ·have E:=aA g.1 rfl rfl;have e:=aA g.2.1 rfl rfl;clear q g;go_simp;refine l _ _ zR ?_
    show(_:Value)=_
    first|rfl|(simp;done)|(simp;omega)
   ·have x:=aA g.1 rfl rfl;have F:=aA g.2.1 rfl rfl;clear q g;go_simp;refine l _ _ zR ?_
    show(_:Value)=_
    first|rfl|(simp;done)|(simp;omega)
   intro qx wr B hR hS;clear hR hS;simp only[bJ,zF0,zGb,zF1,zFp,zFd,zFh,zF4,Act.put,zFf,zFw,zFx];refine zM ?_;go_wp2_with fail
   go_roundw
   case rel=>exact⟨k+1,K,by go_num,zH (a.trans (B.mono a.size))⟩
   case measure=>simp[intOf];omega
  obtain rfl:k=I:=by omega
  have x2:wq.cell? ⟨L,2,none⟩=some (.slice Ab n cb):=(HK.1.old a.out).cell 2;go_wp2_with fail
  clear x1 y1 x2
  go_loopw[54] (λi wr=>∃(k:Nat),k<=n/\i=.int .i64 k/\Hid (Below Y Y wr)) (λi _=>n-(intOf i).toNat)
  case atStart=>exact⟨0,zFj _,rfl,a⟩
  case round=>
   clear a;obtain⟨s,rfl⟩:∃z:World,z=wr:=⟨_,rfl⟩
   obtain⟨k,hk,rfl,a⟩:=hrel;have x2:s.cell? ⟨L,2,none⟩=some (.slice Ab n cb):=(HK.1.old a.out).cell 2;have y2:s.cell? ⟨L+1,2,none⟩=some (.slice a2 n N):=(HK.2.old a.out).cell 2
   by_cases K:k<n
   ·have D:k<bs.length:=by rw[HN.2];exact K
    obtain⟨b,o,cs,rfl,_,hb,F,A⟩:=(HR.2.1.old a.out).elem D;obtain⟨b2,u,a6,rfl,_,G,e,y⟩:=(HR.2.2.old a.out).elem D;generalize bs[k]=Q at *;have E:=λw' (P:Below s s w')=>alike (CK.keep (.old P) F) (CK.keep (.old P) e)
    obtain⟨v4,v5,v6,v7,rfl,x,J,m,h7⟩:=F;obtain⟨u4,u5,u6,u7,rfl,O,H,F,k7⟩:=e;obtain⟨A4,c4,rfl⟩:=x.form;obtain⟨A5,c5,rfl⟩:=J.form;obtain⟨A6,c6,rfl⟩:=m.form;obtain⟨A7,X,rfl,ab,h7⟩:=h7;obtain⟨B4,d4,rfl⟩:=O.form;obtain⟨B5,d5,rfl⟩:=H.form;obtain⟨B6,d6,rfl⟩:=F.form;obtain⟨B7,U,rfl,_,k7⟩:=k7;clear x J m O H F;obtain⟨p,t,m,win,a5,lv,gs,J⟩:=Q;simp only[]at *;have HE:=zH (zA h7 k7);obtain⟨x,e⟩:=zN J.length
    rw[e]at A y E ab;have ad:=zH e;generalize a5.length=W at *;generalize lv.length=R at *;generalize gs.length=Q at *;have F:=zH E;have p0:s.cell? ⟨b,o+k*8,none⟩=some (.int .i64 p):=A 0 _ rfl;have p1:s.cell? ⟨b,o+k*8+1,none⟩=some (.int .i64 t):=A 1 _ rfl;have p2:s.cell? ⟨b,o+k*8+2,none⟩=some (.bool m):=A 2 _ rfl;have O:s.cell? ⟨b,o+k*8+3,none⟩=some (.int .i64 win):=A 3 _ rfl;have p4:s.cell? ⟨b,o+k*8+4,none⟩=some (.slice A4 W c4):=A 4 _ rfl;have Z:s.cell? ⟨b,o+k*8+5,none⟩=some (.slice A5 R c5):=A 5 _ rfl;have p6:s.cell? ⟨b,o+k*8+6,none⟩=some (.slice A6 Q c6):=A 6 _ rfl;have p7:s.cell? ⟨b,o+k*8+7,none⟩=some (.slice A7 x X):=A 7 _ rfl;have q0:s.cell? ⟨b2,u+k*8,none⟩=some (.int .i64 p):=y 0 _ rfl;have q1:s.cell? ⟨b2,u+k*8+1,none⟩=some (.int .i64 t):=y 1 _ rfl;have q2:s.cell? ⟨b2,u+k*8+2,none⟩=some (.bool m):=y 2 _ rfl;have q3:s.cell? ⟨b2,u+k*8+3,none⟩=some (.int .i64 win):=y 3 _ rfl;have q4:s.cell? ⟨b2,u+k*8+4,none⟩=some (.slice B4 W d4):=y 4 _ rfl;have H:s.cell? ⟨b2,u+k*8+5,none⟩=some (.slice B5 R d5):=y 5 _ rfl;have q6:s.cell? ⟨b2,u+k*8+6,none⟩=some (.slice B6 Q d6):=y 6 _ rfl;have q7:s.cell? ⟨b2,u+k*8+7,none⟩=some (.slice B7 x U):=y 7 _ rfl;clear A y h7 k7 E e D;go_upto_region 12 with fail
    go_cut[7,8] (λv7 e wx=>∃g7 g8,v7=.pointer (some ⟨g7,0,none⟩)/\e=.pointer (some ⟨g8,0,none⟩)/\Hid (Below s s wx/\Bk wx g7 62 #[p,t,.bool m,win,.slice A4 W c4,.slice A5 R c5,.slice A6 Q c6,.slice A7 x X]/\Bk wx g8 62 #[p,t,.bool m,win,.slice B4 W d4,.slice B5 R d5,.slice B6 Q d6,.slice B7 x U]))
    case first=>
     go_region_held3(λw'=>w'.cell? ⟨L,2,none⟩=some (.slice (some ⟨b,o,none⟩) n cb)/\w'.cell? ⟨L+1,2,none⟩=some (.slice (some ⟨b2,u,none⟩) n N)/\w'.cell? ⟨b,o+k*8,none⟩=some (.int .i64 p)/\w'.cell? ⟨b,o+k*8+1,none⟩=some (.int .i64 t)/\w'.cell? ⟨b,o+k*8+2,none⟩=some (.bool m)/\w'.cell? ⟨b,o+k*8+3,none⟩=some (.int .i64 win)/\w'.cell? ⟨b,o+k*8+4,none⟩=some (.slice A4 W c4)/\w'.cell? ⟨b,o+k*8+5,none⟩=some (.slice A5 R c5)/\w'.cell? ⟨b,o+k*8+6,none⟩=some (.slice A6 Q c6)/\w'.cell? ⟨b,o+k*8+7,none⟩=some (.slice A7 x X)/\w'.cell? ⟨b2,u+k*8,none⟩=some (.int .i64 p)/\w'.cell? ⟨b2,u+k*8+1,none⟩=some (.int .i64 t)/\w'.cell? ⟨b2,u+k*8+2,none⟩=some (.bool m)/\w'.cell? ⟨b2,u+k*8+3,none⟩=some (.int .i64 win)/\w'.cell? ⟨b2,u+k*8+4,none⟩=some (.slice B4 W d4)/\w'.cell? ⟨b2,u+k*8+5,none⟩=some (.slice B5 R d5)/\w'.cell? ⟨b2,u+k*8+6,none⟩=some (.slice B6 Q d6)/\w'.cell? ⟨b2,u+k*8+7,none⟩=some (.slice B7 x U)) (go_keep) (fail)
     all_goals
      go_wp2_with fail
      go_meet
      exact⟨_,_,rfl,rfl,zH ⟨((ba _ _).trans ((ba _ _).mono (by simp))).drew,by first|exact(Bk.new _ _ _).alloc _|exact Bk.newAt (by simp) _ _,by first|exact(Bk.new _ _ _).alloc _|exact Bk.newAt (by simp) _ _⟩⟩
    case rest=>
    obtain⟨g7,g8,rfl,rfl,E⟩:=hcut;clear x2 y2 p0 q0 p1 q1 p2 q2 O q3 p4 q4 Z H p6 q6 p7 q7;go_wp2_with (first|(refine aj yu rfl (.tmp 7) rfl rfl [.int .i64 p,.int .i64 t,.bool m,.int .i64 win,.slice A4 W c4,.slice A5 R c5,.slice A6 Q c6,.slice A7 x X] rfl (λi v hv=>by rw[zFr,E.2.1.cell i];simpa using hv) ?_)|(refine aj yu rfl (.tmp 8) rfl rfl [.int .i64 p,.int .i64 t,.bool m,.int .i64 win,.slice B4 W d4,.slice B5 R d5,.slice B6 Q d6,.slice B7 x U] rfl (λi v hv=>by rw[zFr,E.2.2.cell i];simpa using hv) ?_))
    refine(F.out _ E.1).mono ?_;rintro e w2 ⟨rfl,G⟩;have O:=zH (zA (E.1.trans (G.mono E.1.size)) (zA (E.2.1.old G) (E.2.2.old G)));have x7:=O.2.1.cell 7;have y7:=O.2.2.cell 7;clear F E G;go_wp2_with fail
    clear x7 y7
    go_loopw[83] (λi wr=>∃(j:Nat),j<=x/\i=.int .i64 j/\Hid (Below w2 w2 wr)) (λi _=>x-(intOf i).toNat)
    case atStart=>exact⟨0,zFj _,rfl,zH zR⟩
    case round=>
     obtain⟨H,rfl⟩:∃z:World,z=wr:=⟨_,rfl⟩
     obtain⟨j,hj,rfl,E⟩:=hrel
     by_cases a3:j<x
     ·have a1:j<J.length:=by rw[ad.out];exact a3
      have Z:=O.1.trans (E.mono O.1.size);obtain⟨e,f,cs,rfl,_,_,⟨v1,v2,rfl,i1,i2⟩,A⟩:=(HE.1.old Z).elem a1;obtain⟨F,z,a6,rfl,_,_,⟨u1,u2,rfl,i3,i4⟩,y⟩:=(HE.2.old Z).elem a1;have aa:=zH λw' (P:Below H H w')=>zC d (i1.keep (.old P)) (i3.keep (.old P))
      have a8:=zH λw' (P:Below H H w')=>KW (i2.keep (.old P)) (i4.keep (.old P))
      generalize J[j].branch=P at *;have x7:H.cell? ⟨g7,7,none⟩=some (.slice (some ⟨e,f,none⟩) x X):=(O.2.1.old E.out).cell 7;have y7:H.cell? ⟨g8,7,none⟩=some (.slice (some ⟨F,z,none⟩) x U):=(O.2.2.old E.out).cell 7;have p0:H.cell? ⟨e,f+j*3,none⟩=some (.int .i64 P):=A 0 _ rfl;have p1:H.cell? ⟨e,f+j*3+1,none⟩=some v1:=A 1 _ rfl;have p2:H.cell? ⟨e,f+j*3+2,none⟩=some v2:=A 2 _ rfl;have q0:H.cell? ⟨F,z+j*3,none⟩=some (.int .i64 P):=y 0 _ rfl;have q1:H.cell? ⟨F,z+j*3+1,none⟩=some u1:=y 1 _ rfl;have q2:H.cell? ⟨F,z+j*3+2,none⟩=some u2:=y 2 _ rfl;clear A y i1 i2 i3 i4 HE O a1 Z;go_upto_region 18 with fail
      refine wx (λk => false) (.is (.pointer (some ⟨g7, 7, none⟩)) ::
        .is (.slice (some ⟨e,f,none⟩) x X)::
        .is (.int .i64 (j:Nat))::
        .is (.pointer (some ⟨e,f+j*3,none⟩))::
        .is (.pointer (some ⟨e,f+j*3,none⟩))::
        .is (.int .i64 P)::
        .is (.pointer (some ⟨g8,7,none⟩))::
        .is (.slice (some ⟨F,z,none⟩) x U)::
        .is (.int .i64 (j:Nat))::
        .is (.pointer (some ⟨F,z+j*3,none⟩))::
        .is (.pointer (some ⟨F,z+j*3,none⟩))::
        .is (.int .i64 P)::
        .is (.bool false)::
        .is (.bool false)::
        .is (.pointer (some ⟨g7,7,none⟩))::
        .is (.slice (some ⟨e,f,none⟩) x X)::
        .is (.int .i64 (j:Nat))::
        [.is (.pointer (some ⟨e,f+j*3,none⟩)),
        .is (.pointer (some ⟨e,f+j*3+1,none⟩)),
        .is (v1),
        .is (.pointer (some ⟨g8,7,none⟩)),
        .is (.slice (some ⟨F,z,none⟩) x U),
        .is (.int .i64 (j:Nat)),
        .is (.pointer (some ⟨F,z+j*3,none⟩)),
        .is (.pointer (some ⟨F,z+j*3+1,none⟩)),
        .is (u1),
        .is (.bool true),
        .is (.bool false),
        .is (.bool false),
        .is (.bool false),
        .is (.pointer (some ⟨g7,7,none⟩)),
        .is (.slice (some ⟨e,f,none⟩) x X),
        .is (.int .i64 (j:Nat)),
        .is (.pointer (some ⟨e,f+j*3,none⟩)),
        .is (.pointer (some ⟨e,f+j*3+2,none⟩)),
        .is (v2),
        .is (.pointer (some ⟨g8,7,none⟩)),
        .is (.slice (some ⟨F,z,none⟩) x U),
        .is (.int .i64 (j:Nat)),
        .is (.pointer (some ⟨F,z+j*3,none⟩)),
        .is (.pointer (some ⟨F,z+j*3+2,none⟩)),
        .is (u2),
        .is (.bool true),
        .is (.bool false),
        .is (.bool false)]) [3,9,12,17,23,26,33,39,42] (by kernel_rfl) (by kernel_rfl) (by kernel_rfl)
        (λC=>.c (px C rfl (λ_ _=>rfl)) <|
        .c (px C rfl (λ_ h=>bH (MJ (bc h x7)))) <|
        .c (px C rfl (λ_ _=>rfl)) <|
        .c (pz [1,2] [] (by kernel_rfl) λM r wr B q g l=>?_) <|
        .c (px C rfl (λ_ _=>rfl)) <|
        .c (px C rfl (λ_ h=>bH (lD (bc h p0)))) <|
        .c (px C rfl (λ_ _=>rfl)) <|
        .c (px C rfl (λ_ h=>bH (MJ (bc h y7)))) <|
        .c (px C rfl (λ_ _=>rfl)) <|
        .c (pz [7,8] [] (by kernel_rfl) λM r wr B q g l=>?_) <|
        .c (px C rfl (λ_ _=>rfl)) <|
        .c (px C rfl (λ_ h=>bH (lD (bc h q0)))) <|
        .c (pz [5,11] [] (by kernel_rfl) λM r wr B q g l=>?_) <|
        .c (px C rfl (λ_ _=>rfl)) <|
        .c (px C rfl (λ_ _=>rfl)) <|
        .c (px C rfl (λ_ h=>bH (MJ (bc h x7)))) <|
        .c (px C rfl (λ_ _=>rfl)) <|
        .c (pz [15,16] [] (by kernel_rfl) λM r wr B q g l=>?_) <|
        .c (px C rfl (λ_ _=>rfl)) <|
        .c (px C rfl (λ_ h=>bH (jD (bc h p1)))) <|
        .c (px C rfl (λ_ _=>rfl)) <|
        .c (px C rfl (λ_ h=>bH (MJ (bc h y7)))) <|
        .c (px C rfl (λ_ _=>rfl)) <|
        .c (pz [21,22] [] (by kernel_rfl) λM r wr B q g l=>?_) <|
        .c (px C rfl (λ_ _=>rfl)) <|
        .c (px C rfl (λ_ h=>bH (jD (bc h q1)))) <|
        .c (pz [19,25] [] (by kernel_rfl) λM r wr B q g l=>?_) <|
        .c (px C rfl (λ_ _=>rfl)) <|
        .c (px C rfl (λ_ _=>rfl)) <|
        .c (px C rfl (λ_ _=>rfl)) <|
        .c (px C rfl (λ_ _=>rfl)) <|
        .c (px C rfl (λ_ h=>bH (MJ (bc h x7)))) <|
        .c (px C rfl (λ_ _=>rfl)) <|
        .c (pz [31,32] [] (by kernel_rfl) λM r wr B q g l=>?_) <|
        .c (px C rfl (λ_ _=>rfl)) <|
        .c (px C rfl (λ_ h=>bH (XQ (bc h p2)))) <|
        .c (px C rfl (λ_ _=>rfl)) <|
        .c (px C rfl (λ_ h=>bH (MJ (bc h y7)))) <|
        .c (px C rfl (λ_ _=>rfl)) <|
        .c (pz [37,38] [] (by kernel_rfl) λM r wr B q g l=>?_) <|
        .c (px C rfl (λ_ _=>rfl)) <|
        .c (px C rfl (λ_ h=>bH (XQ (bc h q2)))) <|
        .c (pz [35,41] [] (by kernel_rfl) λM r wr B q g l=>?_) <|
        .c (px C rfl (λ_ _=>rfl)) <|
        .c (px C rfl (λ_ _=>rfl)) <| .nil) ?_
      ·have aw:=aA g.1 rfl rfl;have b1:=aA g.2.1 rfl rfl;clear q g;go_simp;refine l _ _ zR ?_
       show(_:Value)=_
       first|rfl|(simp;done)|(simp;omega)
      ·have av:=aA g.1 rfl rfl;have ar:=aA g.2.1 rfl rfl;clear q g;go_simp;refine l _ _ zR ?_
       show(_:Value)=_
       first|rfl|(simp;done)|(simp;omega)
      ·have b0:=aA g.1 rfl rfl;have b3:=aA g.2.1 rfl rfl;clear q g;go_simp;refine l _ _ zR ?_
       show(_:Value)=_
       first|rfl|(simp;done)|(simp;omega)
      ·have am:=aA g.1 rfl rfl;have al:=aA g.2.1 rfl rfl;clear q g;go_simp;refine l _ _ zR ?_
       show(_:Value)=_
       first|rfl|(simp;done)|(simp;omega)
      ·have Z:=aA g.1 rfl rfl;have ao:=aA g.2.1 rfl rfl;clear q g;go_simp;refine l _ _ zR ?_
       show(_:Value)=_
       first|rfl|(simp;done)|(simp;omega)
      ·have ak:=aA g.1 rfl rfl;have aq:=aA g.2.1 rfl rfl;clear q g;go_simp
       go_at_call 28
       refine(aa.out wr B).mono ?_;rintro r w9 ⟨rfl,h⟩;exact l _ _ h rfl
      ·have af:=aA g.1 rfl rfl;have ap:=aA g.2.1 rfl rfl;clear q g;go_simp;refine l _ _ zR ?_
       show(_:Value)=_
       first|rfl|(simp;done)|(simp;omega)
      ·have ag:=aA g.1 rfl rfl;have M:=aA g.2.1 rfl rfl;clear q g;go_simp;refine l _ _ zR ?_
       show(_:Value)=_
       first|rfl|(simp;done)|(simp;omega)
      ·have an:=aA g.1 rfl rfl;have a1:=aA g.2.1 rfl rfl;clear q g;go_simp
       go_at_call 29
       refine(a8.out wr B).mono ?_;rintro r w9 ⟨rfl,h⟩;exact l _ _ h rfl
      intro qx wr B hR hS;clear hR hS;simp only[bJ,zF0,zGb,zF1,zFp,zFd,zFh,zF4,Act.put,zFf,zFw,zFx];refine zM ?_;go_wp2_with fail
      go_roundw
      case rel=>exact⟨j+1,a3,by go_num,zH (E.trans (B.mono E.size))⟩
      case measure=>simp[intOf];omega
     obtain rfl:j=x:=by omega
     go_wp2_with fail
     go_roundw
     case rel=>exact⟨k+1,K,by go_num,zH (a.trans (((O.1.trans (E.mono O.1.size))).mono a.size))⟩
     case measure=>simp[intOf];omega
   obtain rfl:k=n:=by omega
   go_wp2_with fail
   go_ret
   exact⟨rfl,HB.trans (a.mono HB.size)⟩
end
end Go.Proofs.YtbjnhllkdilpfaaGreat
