/- Part 56 of the proof. No conditions. -/
import Derived.Test.YtbjnhllkdilpfaaGreatZf51
import Derived.Test.YtbjnhllkdilpfaaGreatZf55
set_option linter.unusedVariables false
set_option linter.unusedSimpArgs false
set_option maxRecDepth 100000
set_option maxHeartbeats 8000000
namespace Go.Proofs.YtbjnhllkdilpfaaGreat
open Go.RowKit _root_.Go.Proofs.Tryz
theorem Zb (c e:Int) (a l j i:Option Addr) (g b f n k d h m:Nat) (w:World):(Instr.buildSlice 34 2 #[(0,.agg #[c,.slice a g k,.slice l b d]),(1,.agg #[e,.slice j f h,.slice i n m])]).run prog w=.ok (.slice (some ⟨w.heap.size,0,none⟩) 2 2) (w.alloc (.cells #[c,.slice a g k,.slice l b d,e,.slice j f h,.slice i n m] 29)):=by kernel_rfl
theorem zDm {w:World} {o:Oper} {a:Act} {K:Act->World->Prop} {Q:Exit->Act->World->Prop} {f e:Int} {b m l k:Option Addr} {h c g p j d i n:Nat} (x y:Operand) (r:o.op=.buildSlice 34 2 #[(0,x),(1,y)]) (s:a.eval x=.agg #[f,.slice b h j,.slice m c d]) (q:a.eval y=.agg #[e,.slice l g i,.slice k p n])
  (t:K (a.put o.dst (.slice (some ⟨w.heap.size,0,none⟩) 2 2)) (w.alloc (.cells #[f,.slice b h j,.slice m c d,e,.slice l g i,.slice k p n] 29))):o.wp prog a w K Q:=by
 unfold Oper.wp execOp;simp only[r,zHp,zGq,zHc,s,q,zH5,Zb,Result.andThen_ok,Sem.run_pure];exact t
section
set_option maxRecDepth 100000
set_option maxHeartbeats 8000000
theorem zDn (s:ai) (TX:ByteArray) (w:World) (hs:s.ok w w.heap.size) (hl:s.types.length<=1048576):Calls prog 3 #[s.val,TX] w (Yes w):=by
 have d:=hs;obtain⟨v0,v1,a⟩:∃v0 v1,s.val=.agg #[v0,v1]:=⟨_,_,rfl⟩
 have h:v0.oneCell'=true:=by
  unfold ai.val at a;injection a with a
  injection a with a
  injection a with a _
  rw[<-a];rfl
 have e:v1.oneCell'=true:=by
  unfold ai.val at a;injection a with a
  injection a with a
  injection a with _ a
  injection a with a _
  rw[<-a];rfl
 obtain⟨vA,vn,vc,f⟩:∃A n c,v0=.slice A n c:=by
  unfold ai.val at a;injection a with a
  injection a with a
  injection a with a _
  exact⟨_,_,_,a.symm⟩
 obtain⟨uA,un,uc,hB⟩:∃A n c,v1=.slice A n c:=by
  unfold ai.val at a;injection a with a
  injection a with a
  injection a with _ a
  injection a with a _
  exact⟨_,_,_,a.symm⟩
 subst f hB;have HV:=zH a;rw[a];clear a h e
 go_enter func3,ntmps3
 go_upto_region 1 with fail
 have f:=Bk.new w 25 #[.slice vA vn vc,.slice uA un uc];have a:=ba w (.cells #[.slice vA vn vc,.slice uA un uc] 25);generalize w.alloc (.cells #[.slice vA vn vc,.slice uA un uc] 25)=w0 at *;have e:=zH (Dv 200 zL s TX w0 (d.old a) (Wu _));rw[HV.out]at e;have x0:=f.cell 0;have x1:=f.cell 1;have h:=zH a;clear f a hs d;go_wp2_with fail
 refine e.mono ?_;rintro r w2 ⟨pv,rfl,K,M⟩;have o:=zH (h.trans (M.mono h.size));have IA:=FT s TX.toList;have X:=FU s TX.toList;obtain⟨⟨t,QX⟩,a⟩:∃z,jH s TX.toList=z:=⟨_,rfl⟩
 rw[a]at K IA X⊢;simp only at K IA X⊢;clear a e M h;cases QX
 ·obtain⟨A1,A2,n1,n2,c1,c2,rfl⟩:=K.form;clear K IA X;go_upto_region 2 with(refine ae aP rfl _ _ rfl rfl [.int .i64 t.aS,.slice A1 n1 c1,.slice A2 n2 c2] rfl (Bk.new _ _ _) rfl rfl rfl ?_;intro w3 R;go_frame)
  have a:=zH (o.trans ((R.below w2.heap.size w2 (ba _ _) zL).mono o.size));clear R o;go_wp2_with fail
  refine(nO w3).mono ?_;rintro e w4 ⟨rfl,f⟩;have y:=zH (a.trans (f.mono a.size));clear f a;go_wp2_with fail
  refine(nO w4).mono ?_;rintro e w5 ⟨rfl,L⟩;have AP:=zH (y.trans (L.mono y.size));clear L y;go_wp2_with fail
  go_ret
  exact⟨rfl,AP.out⟩
 have h:=IA rfl;obtain⟨cs,rfl,d⟩:=K.row (h.k (by omega));have HG:=zH (zA h.bs h.ax);obtain⟨kv,bv,rfl,hk,hb⟩:=d;obtain⟨S,P,rfl⟩:=hk.form;obtain⟨U,Q,rfl⟩:=hb.form;have d:=zH (zA hk hb);clear K IA h hk hb X;obtain⟨ax,m⟩:∃z:Int,(t.aS:Int)=z:=⟨_,rfl⟩
 rw[m];obtain⟨x,I⟩:=zN t.keys.length
 rw[I]at d⊢;have U7:=zH I;clear I;have an:1<=ax/\ax<=3:=by have:=HG.2;omega
 go_upto_region 2 with(refine ae aP rfl _ _ rfl rfl [.int .i64 ax,.slice S x P,.slice U t.branches.length Q] rfl (Bk.new _ _ _) rfl rfl rfl ?_;intro w3 R;go_frame)
 have B:Below w2 w2 w3:=R.below _ _ (ba _ _) zL;have a:=zH (o.trans (B.mono o.size));have h:Hid (dO 200 (λ_=>True) ax t.keys t.branches [.int .i64 ax,.slice S x P,.slice U t.branches.length Q] w3/\Bk w3 w2.heap.size 29 #[ax,.slice S x P,.slice U t.branches.length Q]):=zH ⟨⟨_,_,rfl,d.1.keep (.old B),d.2.keep (.old B)⟩,R.bk⟩;clear R B o d m;go_wp2_with fail
 refine(nO w3).mono ?_;rintro e w4 ⟨rfl,f⟩;have y:=zH (a.trans (f.mono a.size));have rZ:Hid (dO 200 (λ_=>True) ax t.keys t.branches [.int .i64 ax,.slice S x P,.slice U t.branches.length Q] w4/\Bk w4 w2.heap.size 29 #[ax,.slice S x P,.slice U t.branches.length Q]):=zH ⟨h.1.old f,h.2.old f⟩;clear f a h;go_upto_region 4 with fail
 refine wx (λk=>k==3) [.is (.agg #[ax,.slice S x P,.slice U t.branches.length Q]),.is (.agg #[ax,.slice S x P,.slice U t.branches.length Q]),.st (λv w=>∃(E F:Option Addr) (m D G:Nat) (d:List dL),v=.agg #[ax,.slice E x D,.slice F m G]/\dO 200 (λ_=>True) ax t.keys d [.int .i64 ax,.slice E x D,.slice F m G] w/\qy 3400 d) (λ_ _ _ hb ⟨E,F,m,D,G,d,Z,h,A⟩=>⟨E,F,m,D,G,d,Z,h.old hb,A⟩),
  .st (λv w=>∃(g:Nat) (E F:Option Addr) (m D G:Nat) (d:List dL),v=.slice (some ⟨g,0,none⟩) 2 2/\Bk w g 29 #[ax,.slice S x P,.slice U t.branches.length Q,ax,.slice E x D,.slice F m G]/\dO 200 (λ_=>True) ax t.keys d [.int .i64 ax,.slice E x D,.slice F m G] w/\qy 3400 d) (λ_ _ _ hb ⟨g,E,F,m,D,G,d,H,Z,h,A⟩=>⟨g,E,F,m,D,G,d,H,Z.old hb,h.old hb,A⟩),.is (.int .i64 2),.is (.int .i64 0)] [2,3,4] (by kernel_rfl) (by kernel_rfl) (by kernel_rfl)
  (λC=>.c (px C rfl (λ_ h=>bH (dW eF aP [.int .i64 ax,.slice S x P,.slice U t.branches.length Q] rfl λj u A=>by rw[zFr,(rZ.2.old h).cell j];simpa using A))) <| .c (px C rfl (λ_ h=>bH (dW eF aP [.int .i64 ax,.slice S x P,.slice U t.branches.length Q] rfl λj u A=>by rw[zFr,(rZ.2.old h).cell j];simpa using A))) <| .c (pz [1] [] (by kernel_rfl) λqK qa wr hB qO J hK=>?_) <|
   .c (pf [0,2] [] (by kernel_rfl) λqK qa wr hB qO J hK=>?_) <| .c (pz [3] [] (by kernel_rfl) λqK qa wr hB qO J hK=>?_) <| .c (px C rfl (λ_ _=>rfl)) .nil) ?_
 ·have a6:=aA J.1 rfl rfl;clear qO J;go_simp
  go_at_call 7
  refine(zAm (rZ.1.old hB) HG.1 (by decide)).mono ?_;rintro e w5 ⟨O,d,rfl,h5,h6,h7⟩;obtain⟨a7,Xm,rfl,Y,a3⟩:=h5;obtain⟨E,D,rfl⟩:=Y.form;rw[U7.out]at Y⊢;obtain⟨F,G,rfl⟩:=a3.form;exact hK _ _ h7 ⟨E,F,_,D,G,d,rfl,⟨_,_,rfl,Y.keep λb _ H=>⟨trivial,H,rfl⟩,a3.keep λb _ H=>⟨trivial,H,rfl⟩⟩,h6⟩
 ·have a5:=aA J.1 rfl rfl;obtain⟨u29,N,E,F,m,D,G,d,rfl,h5,h6⟩:=J.2.1;have N:qa.tmps[29]? =some (.agg #[ax,.slice E x D,.slice F m G]):=N;clear qO J;refine zDm (.tmp 27) (.tmp 29) rfl (aB a5) (aB N) ?_;exact hK _ _ (zR.alloc zL _) ⟨_,E,F,m,D,G,d,rfl,Bk.new _ _ _,h5.old (ba _ _),h6⟩ ⟨_,rfl,by simp,by simp⟩
 ·obtain⟨u30,a4,g,E,F,m,D,G,d,rfl,h5,h6,h7⟩:=J.1;have a4:qa.tmps[30]? =some (.slice (some ⟨g,0,none⟩) 2 2):=a4;clear qO J;go_simp;exact hK _ _ zR rfl
 intro qx w5 Ew J hS;obtain⟨g,E,F,m,D,G,d,ak,Y,XF,N⟩:=J 3 rfl rfl;clear J hS;simp only[bJ,zF0,zGb,zF1,zFp,zFd,zFh,zF4,Act.put,zFf,zFw,zFx];rw[ak];generalize qx 2=z2;refine zM ?_;have ar:w2.heap.size<w4.heap.size:=rZ.2.lt
 have al:Hid (∀k<2,∃(bs:List dL) (cs:List Value),qy 3400 bs/\dO 200 (λ_=>True) ax t.keys bs cs w5/\∀(j:Nat) (u:Value),cs[j]? =some u->w5.cell? ⟨g,k*3+j,none⟩=some u):=zH λk hk=>by
  rcases(by omega:k=0\/k=1)with rfl|rfl
  ·refine⟨_,_,HG.1.more (by decide),rZ.1.old Ew,λj u A=>?_⟩;have J:=(zFc.1 A).1;have J:j<3:=J;rw[zHm,zFr,Y.cell j];rcases(by omega:j=0\/j=1\/j=2)with rfl|rfl|rfl<;>exact A
  refine⟨_,_,N,XF,λj u A=>?_⟩;have J:=(zFc.1 A).1;have J:j<3:=J;rw[Y.cell (1*3+j)];rcases(by omega:j=0\/j=1\/j=2)with rfl|rfl|rfl<;>exact A
 have AP:=zH (y.trans (Ew.mono y.size));clear XF N Y Ew y rZ;go_wp2_with fail
 go_loopw[32] (λi wr=>∃k:Nat,k<=2/\i=.int .i64 k/\Hid (Below w5 w5 wr)) (λi _=>2-(intOf i).toNat)
 case atStart=>exact⟨0,by decide,rfl,zH zR⟩
 case round=>
  obtain⟨k,hk,rfl,hI⟩:=hrel;obtain⟨wo,rfl⟩:∃z:World,z=wr:=⟨_,rfl⟩
  by_cases H:k<2
  ·obtain⟨bs,cs,z,a7,a4⟩:=al.out k H;have hc:∀(j:Nat) (u:Value),cs[j]? =some u->wo.cell? ⟨g,k*3+j,none⟩=some u:=λj u A=>bc hI.out (a4 j u A)
   have J:=a7.old hI.out;obtain⟨kv,bv,rfl,Y,N⟩:=J;obtain⟨Ck,fk,rfl⟩:=Y.form;obtain⟨Cb,fb,rfl⟩:=N.form;have hf:∀b∈bs,Ic b:=λb hb p l J=>(z.sg b hb).2.2.1 (p.form,p.type) (l.map λp=>(p.form,p.type)) (by simp[KP,J])
   have a6:bs.length<=1000:=by have:=z.nb;omega
   have a3:∀b∈bs,b.ps.length<=1000:=λb hb=>by have:=(z.ps hb).2;omega
   have a5:Hid (∀(cs:List Value) (W:World),dO 200 (λ_=>True) ax t.keys bs cs W->Calls prog 10 #[.agg cs.toArray] W λe w'=>∃O:List Value,e=.returned (.tuple #[.agg O.toArray,.int .i64 (gU ax t.keys bs).2])/\wO 200 (λq=>W.heap.size<=q) (gU ax t.keys bs).1.aS (gU ax t.keys bs).1.keys (gU ax t.keys bs).1.states O w'/\Below W W w'):=zH λcs W h=>by
    have Z:=YV a6 a3 h;rw[Y0 ax t.keys bs hf]at Z;exact Z
   have Zt:=zH (Lh (ax:=ax) (ks:=t.keys) an z);have NG:Hid (∀W,Below wo wo W->dO 200 (λ_=>True) ax t.keys bs [.int .i64 ax,.slice Ck t.keys.length fk,.slice Cb bs.length fb] W):=zH λW J=>⟨_,_,rfl,Y.keep (.old J),N.keep (.old J)⟩
   have I:=U7.out;obtain⟨nb,O⟩:=zN bs.length
   rw[I,O]at hc NG;have yS:=zH (zA I O);clear Y N a7 a4 hf a6 a3 z I O;go_upto_region 7 with(first|(refine aV aP eF rfl (.tmp 34) rfl rfl [.int .i64 ax,.slice Ck x fk,.slice Cb nb fb] rfl hc ?_)|(refine ae aP rfl _ _ rfl rfl [.int .i64 ax,.slice Ck x fk,.slice Cb nb fb] rfl (Bk.new _ _ _) rfl rfl rfl ?_;intro W1 p1;go_frame))
   have z:Below wo wo W1:=p1.below _ _ (ba _ _) zL;have Y:=zH (zA p1.bk z);clear p1 z hc;go_wp2_with (refine aV aP eF rfl (.tmp 8) rfl rfl [.int .i64 ax,.slice Ck x fk,.slice Cb nb fb] rfl (λj u A=>by rw[zFr,Y.1.cell j];simpa using A) ?_)
   refine(zCk (NG.out W1 Y.2)).mono ?_;rintro e W2 ⟨_,rfl,⟨aw,b3,rfl,N,O⟩,M⟩;obtain⟨Dk,gk,rfl⟩:=N.form;obtain⟨Db,gb,rfl⟩:=O.form;have a9:Hid (∀W,Below W2 W2 W->dO 200 (λq=>W1.heap.size<=q) ax t.keys bs [.int .i64 ax,.slice Dk t.keys.length gk,.slice Db bs.length gb] W):=zH λW J=>⟨_,_,rfl,N.keep (.old J),O.keep (.old J)⟩
   rw[yS.1,yS.2]at a9⊢;have o:=zH (Y.2.trans (M.mono Y.2.size));have z:=zH (Y.1.old M);clear N O M;go_upto_region 8 with(refine ae aP rfl _ _ rfl rfl [.int .i64 ax,.slice Dk x gk,.slice Db nb gb] rfl (Bk.new _ _ _) rfl rfl rfl ?_;intro W3 R;go_frame)
   have B:Below W2 W2 W3:=R.below _ _ (ba _ _) zL;have a:=zH (zA (o.trans (B.mono o.size)) (zA (z.old B) (zA R.bk B)));clear R B o z Y;go_wp2_with (refine aV aP eF rfl (.tmp 9) rfl rfl [.int .i64 ax,.slice Dk x gk,.slice Db nb gb] rfl (λj u A=>by rw[zFr,a.2.2.1.cell j];simpa using A) ?_)
   refine(Ov (a9.out W3 a.2.2.2)).mono ?_;rintro e W4 ⟨_,rfl,⟨En,av,rfl,a4,wW⟩,f⟩;obtain⟨Ek,ab,rfl⟩:=a4.form;obtain⟨Es,a7,rfl⟩:=wW.form;obtain⟨er,Y⟩:=zN ((gU ax t.keys bs).2)
   obtain⟨rs,N⟩:=zN ((gU ax t.keys bs).1.aS)
   obtain⟨rk,O⟩:=zN ((gU ax t.keys bs).1.keys)
   obtain⟨rt,z⟩:=zN ((gU ax t.keys bs).1.states)
   rw[Y,N,z]at Zt;rw[Y,N,O,z]at a5;rw[O]at a4;rw[z]at wW;rw[Y,N,O,z];obtain⟨Z,a6⟩:=zN rk.length
   obtain⟨a3,SI⟩:=zN rt.length
   have ad:Hid (∀W,Below W4 W4 W->wO 200 (λq=>W3.heap.size<=q) rs rk rt [.int .i64 rs,.slice Ek rk.length ab,.slice Es rt.length a7] W):=zH λW J=>⟨_,_,rfl,a4.keep (.old J),wW.keep (.old J)⟩
   rw[a6,SI]at ad⊢;have ag:=zH (zA a6 SI);have y:=zH f;clear a4 wW f Y N O z a6 SI;go_upto_region 9 with(refine ae gZ rfl _ _ rfl rfl [.int .i64 rs,.slice Ek Z ab,.slice Es a3 a7] rfl (Bk.new _ _ _) rfl rfl rfl ?_;intro W5 Y;go_frame)
   have L:Below W4 W4 W5:=Y.below _ _ (ba _ _) zL;have N:=y.trans (L.mono y.size);have O:=a.1.trans (N.mono a.1.size);have z:=zH (zA O (zA N (zA L (zA (a.2.1.old N) (zA (a.2.2.1.old N) Y.bk)))));clear Y L N O;go_wp2_with (refine aV aP eF rfl (.tmp 8) rfl rfl [.int .i64 ax,.slice Ck x fk,.slice Cb nb fb] rfl (λj u A=>by rw[zFr,z.2.2.2.1.cell j];simpa using A) ?_)
   have a4:=a5.out _ W5 (NG.out W5 z.1);refine a4.mono ?_;rintro e W6 ⟨_,rfl,⟨b4,ap,rfl,O,N⟩,Y⟩;obtain⟨Fk,a6,rfl⟩:=O.form;obtain⟨Fs,a8,rfl⟩:=N.form;have af:Hid (∀W,Below W6 W6 W->wO 200 (λq=>W5.heap.size<=q) rs rk rt [.int .i64 rs,.slice Fk rk.length a6,.slice Fs rt.length a8] W):=zH λW J=>⟨_,_,rfl,O.keep (.old J),N.keep (.old J)⟩
   rw[ag.1,ag.2]at af⊢;have Ru:=zH Y;clear O N Y a4 a5;go_upto_region 10 with(refine ae gZ rfl _ _ rfl rfl [.int .i64 rs,.slice Fk Z a6,.slice Fs a3 a8] rfl (Bk.new _ _ _) rfl rfl rfl ?_;intro W7 Y;go_frame)
   have O:Below W6 W6 W7:=Y.below _ _ (ba _ _) zL;have J:=Ru.trans (O.mono Ru.size);have N:=zH (zA (z.1.trans (J.mono z.1.size)) (zA J (zA O (zA (z.2.2.2.1.old J) (zA (z.2.2.2.2.1.old J) (zA (z.2.2.2.2.2.old J) Y.bk))))));clear Y O J;have yQ:=zH (zDk (ad.out W7 (z.2.2.1.trans (N.2.1.mono z.2.2.1.size))) (af.out W7 N.2.2.1));go_wp2_with (first|(refine aV gZ zq rfl (.tmp 10) rfl rfl [.int .i64 rs,.slice Ek Z ab,.slice Es a3 a7] rfl (λj u A=>by rw[zFr,N.2.2.2.2.2.1.cell j];simpa using A) ?_)|(refine aV gZ zq rfl (.tmp 12) rfl rfl [.int .i64 rs,.slice Fk Z a6,.slice Fs a3 a8] rfl (λj u A=>by rw[zFr,N.2.2.2.2.2.2.cell j];simpa using A) ?_))
   refine yQ.mono ?_;rintro e W8 ⟨rfl,J⟩;have Y:=N.2.1.trans (J.mono N.2.1.size);have a4:=z.2.1.trans (Y.mono z.2.1.size);have ao:=zH (WM (a9.out W8 (a.2.2.2.trans (a4.mono a.2.2.2.size))) (NG.out W8 (a.1.trans (a4.mono a.1.size))));have k8:=N.2.2.2.1.old J;have k9:=N.2.2.2.2.1.old J;obtain⟨a0,a1,a2⟩:=zc3 k8;obtain⟨b0,b1,b2⟩:=zc3 k9;have O:=zH (zA (N.1.trans (J.mono N.1.size)) (zA (N.2.2.2.2.2.1.old J) Y));clear k8 k9 J Y a4 yQ;go_wp2_with fail
   refine ao.mono ?_;rintro e W9 ⟨rfl,dM⟩;have aa:=O.1.trans (dM.mono O.1.size);have a5:=O.2.1.old dM;obtain⟨c0,c1,c2⟩:=zc3 a5;have a4:=O.2.2.trans (dM.mono O.2.2.size);have Y:=zH (hI.trans (aa.mono hI.size))
   by_cases he:er=0
   ·subst he;have RN:=zH (zAe (ad.out W9 (z.2.2.1.trans (a4.mono z.2.2.1.size))) (Zt.out rfl));clear a5 dM aa a4 a0 a1 a2 b0 b1 b2;go_wp2_with fail
    refine RN.mono ?_;rintro e aq ⟨rfl,J⟩;have am:=zH (Y.trans (J.mono Y.size));clear J c0 c1 c2;go_wp2_with fail
    exact⟨⟨k+1,H,by go_num,am⟩,by simp[intOf];omega⟩
   have J:(er==0)=false:=by rw[zFz];exact he
   clear a5 dM aa a4 a0 a1 a2 b0 b1 b2 c0 c1 c2;go_wp2_with fail
   exact⟨⟨k+1,H,by go_num,Y⟩,by simp[intOf];omega⟩
  obtain rfl:k=2:=by omega
  have J:=zH (AP.trans (hI.mono AP.size));go_wp2_with fail
  go_ret
  exact⟨rfl,J.out⟩
end
end Go.Proofs.YtbjnhllkdilpfaaGreat
