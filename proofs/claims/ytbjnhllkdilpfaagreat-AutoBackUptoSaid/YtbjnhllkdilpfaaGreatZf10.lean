/- Part 10 of the proof. No conditions. -/
import Derived.Test.YtbjnhllkdilpfaaGreatZf09
set_option linter.unusedVariables false
set_option linter.unusedSimpArgs false
set_option maxRecDepth 100000
set_option maxHeartbeats 8000000
namespace Go.Proofs.YtbjnhllkdilpfaaGreat
open Go.RowKit _root_.Go.Proofs.Tryz
abbrev Uw:=ByteArray×List mQ
def fieldsOf (t:Uw):List (List UInt8):=t.2.map (·.name.toList)
def iO (f:mQ):Bool:=decide (f.kind<1)||decide (4<f.kind)
def Ux (t:Uw):Bool:=decide (8<t.2.length)
def Uy (t:Uw):Bool:=t.2.any iO
def Jv (t:Uw):Bool:=Eg (fieldsOf t)
def eZ (b:Bool):Int:=if b=true then 11 else 0
def xO (T:List Uw) (Y:List ByteArray):Int:=
 if(decide (16<T.length)||decide (64<Y.length)||T.any Ux)=true then 2
 else if(T.any Jv||Eg (T.map (·.1.toList))||Eg (Y.map (·.toList)))=true then 10
 else eZ (T.any Uy)
def sg (neg:Bool) (n:Nat):Int:=if neg=true then -(n:Int)else n
def dO (d:Nat) (S:Nat->Prop) (ax:Int) (ks:List Int) (bs:List dL) (cs:List Value) (w:World):Prop:=∃kv bv,cs=[.int .i64 ax,kv,bv]/\Sl gK S ks kv w/\Sl (xh d) S bs bv w
theorem aP (w:World):(sizeOf 29).run prog w=.ok 3 w:=by
 obtain⟨i,a,d,b,c⟩:=zG4 (show(prog.info? 29).map (λi=>(i.zero,i.size,i.bytes))=some (some (.agg #[(),"",""]),3,56) by kernel_rfl);simp[sizeOf,typeInfo,a,b]
def wO (d:Nat) (S:Nat->Prop) (ax:Int) (ks:List Int) (bs:List fQ) (cs:List Value) (w:World):Prop:=∃kv bv,cs=[.int .i64 ax,kv,bv]/\Sl gK S ks kv w/\Sl (Z5 d) S bs bv w
theorem gZ (w:World):(sizeOf 38).run prog w=.ok 3 w:=by
 obtain⟨i,a,d,b,c⟩:=zG4 (show(prog.info? 38).map (λi=>(i.zero,i.size,i.bytes))=some (some (.agg #[(),"",""]),3,56) by kernel_rfl);simp[sizeOf,typeInfo,a,b]
theorem zq (w:World):(isAgg 38).run prog w=.ok true w:=by simp[isAgg,go_sem]
theorem eF (w:World):(isAgg 29).run prog w=.ok true w:=by simp[isAgg,go_sem]
theorem aV {w:World} {ops:Array Oper} {b:List Oper} {op:Oper} {a:Act} {Q:Exit->Act->World->Prop} {t n:Nat} (d:∀w,(sizeOf t).run prog w=.ok n w) (h:∀w,(isAgg t).run prog w=.ok true w) (i:op.guard=none) (x:Operand) (f:op.op=Op.load t x) {g o:Nat} (k:a.eval x=.pointer (some ⟨g,o,none⟩)) (c:List Value) (p:c.length=n) (l:∀(j:Nat) (u:Value),c[j]? =some u->w.cell? ⟨g,o+j,none⟩=some u)
  (m:wpList prog ops Q b (a.put op.dst (.agg c.toArray)) w):wpList prog ops Q (op::b) a w:=by
 refine zH8 i λK' e=>?_
 unfold Oper.wp;simp[execOp,f,k,dW h d c p l,Result.andThen];exact e _ _ m
theorem zCj {w:World} {g t c:Nat} {i:Int} (h:Bk w g t #[i]):SlR gK (λ_=>False) [i] (.slice (some ⟨g,0,none⟩) 1 c) w:=⟨_,c,rfl,[(i,[.int .i64 i])],rfl,Rd.bk h h.lt,λp a=>by simp at a;subst a;rfl⟩
def ints (l:List Nat):List Int:=l.map Int.ofNat
section
set_option maxRecDepth 100000
set_option maxHeartbeats 8000000
theorem zCk {d:Nat} {S:Nat->Prop} {ax:Int} {ks:List Int} {bs:List dL} {cs:List Value} {w:World} (h:dO d S ax ks bs cs w):Calls prog 8 #[.agg cs.toArray] w λe w'=>∃a,e=.returned (.agg a.toArray)/\dO d (λq=>w.heap.size<=q) ax ks bs a w'/\Below w w w':=by
 obtain⟨kv,bv,rfl,G,hb⟩:=h;obtain⟨Ak,Y,rfl⟩:=G.form;obtain⟨Ab,cb,a,R,hb⟩:=hb;subst a;have s:=zH G;have HR:=zH hb.lo;clear G hb
 go_enter func8,ntmps8
 go_upto_region 1 with fail
 obtain⟨t,a⟩:=zN ((w.alloc (.cells #[ax,.slice Ak ks.length Y,.slice Ab bs.length cb] 29)).alloc (.cells #[(),"",""] 29))
 have n:Bk t w.heap.size 29 #[ax,.slice Ak ks.length Y,.slice Ab bs.length cb]:=a▸(Bk.new _ _ _).alloc _;have k2:Bk t (w.heap.size+1) 29 #[(),"",""]:=a▸Bk.newAt (by simp) _ _;have f:Below w w t:=a▸bel2 w _ _;simp only[a];clear a;have z:t.cell? ⟨w.heap.size,0,none⟩=some (.int .i64 ax):=n.cell 0;have B:t.cell? ⟨w.heap.size,1,none⟩=some (.slice Ak ks.length Y):=n.cell 1
 refine wx (λk=>k==6) [.is (.pointer (some ⟨w.heap.size,0,none⟩)),.is (.int .i64 ax),.is (.pointer (some ⟨w.heap.size,1,none⟩)),.is (.slice Ak ks.length Y),
  sS (xg ks.length (Bd (λ_=>False) t.heap.size 3 1 gK ks) λA c=>.slice A ks.length c),sS (xg ks.length (Bd (λ_=>False) t.heap.size 3 1 gK ks) λA c=>.agg #[ax,.slice A ks.length c,""]),
  .st (λv w=>∃g,v=.pointer (some ⟨g,0,none⟩)/\t.heap.size<=g/\Bk w g 29 #[(),"",""]) (λ_ _ _ hb ⟨g,L,a,J⟩=>⟨g,L,a,J.old hb⟩)] [4,5,6] (by kernel_rfl) (by kernel_rfl) (by kernel_rfl)
  (λC=>.c (px C rfl (λ_ _=>rfl)) <| .c (px C rfl (λ_ h=>bH (lD (bc h z)))) <| .c (px C rfl (λ_ _=>rfl)) <| .c (px C rfl (λ_ h=>bH (Gq (bc h B)))) <|
   .c (pz [3] [] (by kernel_rfl) λqK X wr l F r D=>?_) <| .c (pz [1,4] [] (by kernel_rfl) λqK X wr l F r D=>?_) <| .c (pf [] [] (by kernel_rfl) λqK X wr l F r D=>?_) .nil) ?_
 ·exact xZ (.tmp 12) rfl (aB (aA r.1 rfl rfl)) ((s.keep (.old f)).keep (.old l)) λA c w' L J=>D _ _ J ⟨A,c,rfl,L.NU l.size⟩
 ·have m:=aA r.1 rfl rfl;obtain⟨u13,a,A,c,rfl,u⟩:=r.2.1;have a:X.tmps[13]? =some (.slice A ks.length c):=a;clear F r;go_simp;exact D _ _ zR ⟨A,c,rfl,u⟩
 ·clear F r;go_simp;exact D _ _ (ba _ _) ⟨_,rfl,l.size,Bk.new _ _ _⟩ ⟨_,rfl,by simp,by simp⟩
 intro qx wr l N hS;obtain⟨A3,W,U,Z⟩:=N 5 rfl rfl;obtain⟨P,a,ag,m⟩:=N 6 rfl rfl;clear N hS;simp only[bJ,List.length,List.take,List.drop,zFd]
 go_frame
 generalize qx 6=z6 at a⊢;generalize qx 5=z5 at U⊢;subst a U;go_upto_region 2 with(refine ae aP rfl _ _ rfl rfl [.int .i64 ax,.slice A3 ks.length W,.slice none 0 0] rfl m rfl rfl rfl ?_;intro x p0;go_frame)
 have u:=p0.size;have y:=l.size;have a4:=k2.lt;have H:=m.lt;have a:Below w.heap.size w x:=p0.below _ _ (f.trans (l.mono f.size)) (by omega);have oK:Hid (Bk x w.heap.size 29 #[ax,.slice Ak ks.length Y,.slice Ab bs.length cb]/\Bk x (w.heap.size+1) 29 #[(),"",""]/\Sl gK (λq=>t.heap.size<=q/\some q≠some P) ks (.slice A3 ks.length W) x):=zH ⟨p0.zJ (n.old l) (by omega),p0.zJ (k2.old l) (by omega),?keys⟩
 case keys=>exact(Z.Kq (S:=λq=>t.heap.size<=q/\some q≠some P) (λb hb E=>⟨hb,λe=>Z.ne m (by decide) (e.symm.trans E.symm)⟩) (λb h=>h.elim) s.le).keep (dB.fE p0 λb hb e=>hb.2 (zGv some e))
 have HG:=zH p0;have a2:=zH a;have a9:=zH (HR.old a);have al:=f.size;have a6:P<x.heap.size:=p0.bk.lt;have ap:t.heap.size<=x.heap.size:=by omega
 clear p0 n k2 m l f a z B Z u y s H;have y2:=oK.1.cell 2;go_wp2_with fail
 go_loopw[18] (λi wr=>∃(k:Nat) (v:Value),k<=bs.length/\i=.int .i64 k/\Hid (x.grownBy wr (some P)/\Bk wr P 29 #[ax,.slice A3 ks.length W,v]/\Bd (λq=>x.heap.size<=q) x.heap.size 67 3 (xh d) (bs.take k) v wr)) (λi _=>bs.length-(intOf i).toNat)
 case atStart=>exact⟨0,_,zFj _,rfl,zH ⟨zF8 _ _,HG.bk,Bd.nil zL⟩⟩
 case round=>
  obtain⟨k,v,G,rfl,n⟩:=hrel;obtain⟨B,rfl⟩:∃z:World,z=wr:=⟨_,rfl⟩
  obtain⟨Av,cv,rfl,_⟩:=n.2.2.form;rw[zG9,zJu G]at n;have a8:=n.1.size
  by_cases f:k<bs.length
  ·obtain⟨b,o,cs,a,an,hb,s,y⟩:=(a9.keep (dB.gV n.1 λb hb=>by omega)).elem f;subst a;have a:=CK.len s;go_upto_region 5 with(first|(refine aj gW rfl _ rfl rfl cs a y ?_)|(refine ae (aY gW.1) rfl _ _ rfl rfl cs rfl (Bk.new _ _ _) a rfl (CK.one s) ?_;intro W1 p1;go_frame))
   obtain⟨pv,rfl,Ap,cp,rfl,O,u⟩:=s;have I:Below B B W1:=p1.below _ _ (ba _ _) zL;have a4:W1.heap.size=B.heap.size+1:=by rw[p1.size];simp
   have pY:=zH (u.keep (.old I));have HX:=zH p1.bk;have x2:=p1.bk.cell 2;obtain⟨ps,s⟩:=zN (bs[k].ps)
   rw[s]at pY O HX x2;have PL:=zH s;clear u p1 y a s;go_wp2_with fail
   go_loopw[6,25] (λa i wr=>∃j:Nat,j<=ps.length/\i=.int .i64 j/\Hid (Below W1 W1 wr/\Bd (λq=>W1.heap.size<=q) W1.heap.size 69 4 (KI d) (ps.take j) a wr)) (λ_ i _=>ps.length-(intOf i).toNat)
   case atStart=>exact⟨0,zFj _,rfl,zH ⟨zGp _ _,Bd.nil zL⟩⟩
   case round=>
    obtain⟨j,hj,rfl,s⟩:=hrel;obtain⟨y,E,rfl,_⟩:=s.2.form;rw[zG9,zJu hj]at s⊢
    by_cases K:j<ps.length
    ·obtain⟨b2,o2,a1,u,_,am,a,a3⟩:=(pY.old s.1).elem K;subst u;have u:=CK.len a;go_upto_region 9 with(first|(refine aj jU rfl _ rfl rfl a1 u a3 ?_)|(refine ae (aY jU.1) rfl _ _ rfl rfl a1 rfl (Bk.new _ _ _) u rfl (CK.one a) ?_;intro Q p2;go_frame))
     obtain⟨gv,uv,rfl,hg,hu⟩:=a;obtain⟨Ag,cg,rfl⟩:=hg.form;obtain⟨Au,cu,rfl⟩:=hu.form;have z:Below wr.heap.size wr Q:=p2.below _ _ (ba _ _) zL;have ak:Q.heap.size=wr.heap.size+1:=by rw[p2.size];simp
     have a7:=s.1.size;have k8:=p2.bk;have H:=zH (zA (hg.keep (.old z)) (hu.keep (.old z)));obtain⟨a,M⟩:=zN (ps[j])
     rw[M]at H k8;have nN:=zH M;clear M;have v2:Q.cell? ⟨wr.heap.size,2,none⟩=some (.slice Ag a.gs.length cg):=k8.cell 2;have v3:Q.cell? ⟨wr.heap.size,3,none⟩=some (.slice Au a.cs.length cu):=k8.cell 3
     refine wx (λk=>false) [.is (.pointer (some ⟨wr.heap.size,2,none⟩)),.is (.slice Ag a.gs.length cg),sS (xg a.gs.length (Nd d (λq=>Q.heap.size<=q) a.gs) λA c=>.slice A a.gs.length c),
      .is (.pointer (some ⟨wr.heap.size,3,none⟩)),.is (.slice Au a.cs.length cu),sS (xg a.cs.length (Nd d (λq=>Q.heap.size<=q) a.cs) λA c=>.slice A a.cs.length c),.is (.pointer (some ⟨wr.heap.size,2,none⟩))] [2,5] (by kernel_rfl) (by kernel_rfl) (by kernel_rfl)
      (λC=>.c (px C rfl (λ_ _=>rfl)) <| .c (px C rfl (λ_ h=>bH (jD (bc h v2)))) <| .c (pz [1] [] (by kernel_rfl) λqK X wq l F r D=>?_) <|
       .c (px C rfl (λ_ _=>rfl)) <| .c (px C rfl (λ_ h=>bH (jD (bc h v3)))) <| .c (pz [4] [] (by kernel_rfl) λqK X wq l F r D=>?_) <| .c (px C rfl (λ_ _=>rfl)) .nil) ?_
     ·have a0:=aA r.1 rfl rfl;clear F r;go_simp
      go_at_call 23
      refine(zo (H.1.keep (.old l))).mono ?_;rintro e w2 ⟨A,c,rfl,L,J⟩;exact D _ _ J ⟨A,c,rfl,L.keep λq M f=>⟨zFi l.size M,f,rfl⟩⟩
     ·have a5:=aA r.1 rfl rfl;clear F r;go_simp
      go_at_call 23
      refine(zo (H.2.keep (.old l))).mono ?_;rintro e w2 ⟨A,c,rfl,L,J⟩;exact D _ _ J ⟨A,c,rfl,L.keep λq M f=>⟨zFi l.size M,f,rfl⟩⟩
     intro qx w3 l N hS;obtain⟨A,r,J,n2⟩:=N 2 rfl rfl;obtain⟨F,D,U,Z⟩:=N 5 rfl rfl;clear N hS;simp only[bJ,List.length,List.take,List.drop,zFd]
     go_frame
     generalize qx 2=z2 at J⊢;generalize qx 5=z5 at U⊢;subst J U;have m:=k8.old l;have v2:=m.cell 2;have v3:=m.cell 3;have f2:=m.frozen 2;have f3:=m.frozen 3;have k4:=(m.put 2 (.slice A a.gs.length r)).put 3 (.slice F a.cs.length D);have X:Below wr.heap.size wr ((w3.setCell ⟨wr.heap.size,2,none⟩ (.slice A a.gs.length r)).setCell ⟨wr.heap.size,3,none⟩ (.slice F a.cs.length D)):=((z.trans (l.mono z.size)).setCell zL _).setCell zL _;have af:wr.heap.size<=w3.heap.size:=by have:=l.size;omega
     have aa:=s.2.old X;have a0:dB (λq=>Q.heap.size<=q) (λq=>W1.heap.size<=q/\some q≠(Value.slice y j E).ownBlock) w3 ((w3.setCell ⟨wr.heap.size,2,none⟩ (.slice A a.gs.length r)).setCell ⟨wr.heap.size,3,none⟩ (.slice F a.cs.length D)):=λq M f=>⟨⟨by omega,λe=>by have:=(s.2.lt e.symm).2;omega⟩,by simpa using f,(zGt _ _ _ q (by show q≠wr.heap.size;omega)).trans (zGt _ _ _ q (by show q≠wr.heap.size;omega))⟩
     have VF:∀o,KI d (λq=>W1.heap.size<=q/\some q≠(Value.slice y j E).ownBlock) ps[j] [.int .i64 a.form,.int .i64 a.type,.slice A a.gs.length r,.slice F a.cs.length D] (((w3.setCell ⟨wr.heap.size,2,none⟩ (.slice A a.gs.length r)).setCell ⟨wr.heap.size,3,none⟩ (.slice F a.cs.length D)).alloc o):=λo=>by rw[nN.out];exact⟨_,_,rfl,(n2.keep a0).keep (.old (ba _ _)),(Z.keep a0).keep (.old (ba _ _))⟩
     go_wp2_with (first|(refine aj jU rfl _ rfl rfl [.int .i64 a.form,.int .i64 a.type,.slice A a.gs.length r,.slice F a.cs.length D] rfl (λi v hv=>by rw[zFr,k4.cell i];simpa using hv) ?_)|(refine dC jU rfl _ rfl [.int .i64 a.form,.int .i64 a.type,.slice A a.gs.length r,.slice F a.cs.length D] rfl rfl ?_)|(at_builtin;refine qY jU rfl _ _ rfl rfl (aa.old (ba _ _)) rfl [.int .i64 a.form,.int .i64 a.type,.slice A a.gs.length r,.slice F a.cs.length D] (Bk.newAt (by simp) _ _) K (VF _) O (by simp;omega) ?_;intro A9 c9 w9 h9 lJ fV))
     go_roundw
     case rel=>exact⟨j+1,K,by go_num,zH ⟨lJ _ _ zL (by simp;omega) ((s.1.trans (X.mono a7)).alloc (by simp;omega) _),h9⟩⟩
     case measure=>simp[intOf];omega
    obtain rfl:j=ps.length:=by omega
    rw[zH3]at s;have kx:=HX.old s.1;have fx:=kx.frozen 2;have xx:=kx.cell 2;have ao:P<B.heap.size:=by omega
    have ad:=s.1.size;have k5:=kx.put 2 (.slice y ps.length E);have L:Below B B wr:=I.trans (s.1.mono I.size);have ab:=L.size;have J:=L.setCell (p:=⟨B.heap.size,2,none⟩) zL (.slice y ps.length E);have M:=n.2.2.old J;have m:=n.2.1.old J;have z2:=m.cell 2;have a5:∀o,xh d (λq=>x.heap.size<=q/\some q≠(Value.slice Av k cv).ownBlock) bs[k] [.int .i64 bs[k].id,.int .i64 bs[k].window,.slice y ps.length E] ((wr.setCell ⟨B.heap.size,2,none⟩ (.slice y ps.length E)).alloc o):=λo=>⟨_,rfl,PL.out▸((s.2.sl (λb hb=>hb) O).keep (S':=λq=>x.heap.size<=q/\some q≠(Value.slice Av k cv).ownBlock) (dB.set λb hb=>⟨⟨by omega,λe=>by have:=(n.2.2.lt e.symm).2;omega⟩,by show b≠B.heap.size;omega⟩)).keep (.old (ba _ _))⟩
    go_wp2_with (first|(refine aj gW rfl _ rfl rfl [.int .i64 bs[k].id,.int .i64 bs[k].window,.slice y ps.length E] rfl (λi v hv=>by rw[zFr,k5.cell i];simpa using hv) ?_)|(refine dC gW rfl _ rfl [.int .i64 bs[k].id,.int .i64 bs[k].window,.slice y ps.length E] rfl rfl ?_)|
     (at_builtin;refine qY gW rfl _ _ rfl rfl (M.old (ba _ _)) rfl [.int .i64 bs[k].id,.int .i64 bs[k].window,.slice y ps.length E] (Bk.newAt (by simp) _ _) f (a5 _) R (by simp;omega) ?_;intro A9 c9 w9 h9 lJ fV;have k9:=(m.alloc _).grown fV (M.ne m (by decide));have z9:=k9.cell 2;have f9:=k9.frozen 2))
    go_roundw
    case rel=>exact⟨_,_,_,_,⟨k+1,f,by go_num,_,zH ⟨eu (dD n.1 (lJ _ _ zL (by simp;omega) (((J.mono a8)).alloc (by simp;omega) _))),k9.put 2 _,h9.set _ (λb hb=>by show b≠P;omega) a6⟩⟩,rfl,rfl,rfl,rfl⟩
    case measure=>simp[intOf];omega
  obtain rfl:k=bs.length:=by omega
  rw[zH3]at n;have m:=n.2.1;obtain⟨s,r,y2⟩:=zc3 m;have k2:=oK.2.1.grown n.1 (by simp;omega);go_wp2_with (first|(refine ae aP rfl _ _ rfl rfl [.int .i64 ax,.slice A3 ks.length W,.slice Av bs.length cv] rfl k2 rfl rfl rfl ?_;intro w9 a;have s:=a.bk.cell 0;have r:=a.bk.cell 1;have y2:=a.bk.cell 2))
  refine zFg (v:=.agg #[ax,.slice A3 ks.length W,.slice Av bs.length cv]) (by simp[results,results8,go_sem,s,r,y2]) rfl ?_;exact⟨[_,_,_],rfl,⟨_,_,rfl,((oK.2.2.keep (dB.gV n.1 λb hb e=>hb.2 (zGv some e))).keep (dB.fE a λb hb=>by omega)).keep λb hb f=>⟨by omega,f,rfl⟩,((n.2.2.sl (λb hb=>hb) R).keep (dB.fE a λb hb=>by omega)).keep λb hb f=>⟨by omega,f,rfl⟩⟩,a.below _ _ (a2.grown n.1 a2.size λk G=>by injection G with G;omega) (by omega)⟩
end
theorem yw (g i:Nat):((⟨g,0,none⟩:Addr).add i)=⟨g,i,none⟩:=by unfold Addr.add;by_cases a:i=0<;>simp[a]
section
variable {α:Type} {n:Nat} {P:(Nat->Prop)->α->List Value->World->Prop} {S:Nat->Prop} {base t:Nat} {xs:List α} {A:Option Addr} {len c:Nat} {w:World}
theorem Bd.fH [CK n P] (h:Bd S base t n P xs (.slice A len c) w):xs.length=len:=by
 obtain⟨b,c',a,_⟩:=h.form;injection a with _ h2 _
 exact h2.symm
theorem Bd.elem [CK n P] (h:Bd S base t n P xs (.slice A len c) w) {k:Nat} (a:k<xs.length):∃g cs,A=some ⟨g,0,none⟩/\base<=g/\g<w.heap.size/\P (λq=>S q/\q≠g) xs[k] cs w/\∀j u,cs[j]? =some u->w.cell? ⟨g,k*n+j,none⟩=some u:=by
 obtain⟨ps,rfl,l,i⟩:=h;rw[zF5]at a;have r:∀p∈ps,(Prod.snd p).length=n:=λp d=>CK.len (i p d)
 have s:=i _ (zFe a);rcases l.2 with⟨o,z⟩|⟨g,x,d,o,hb,y,_⟩
 ·rw[zF5]at z;omega
 have e:A=some ⟨g,0,none⟩:=by injection o
 subst e;refine⟨g,ps[k].2,rfl,hb,Bk.lt (t:=t) (cs:=d) y,CK.keep (S:=λq=>S q/\some q≠(Value.slice (some ⟨g,0,none⟩) len c).ownBlock) (λb hb f=>⟨⟨hb.1,λe=>hb.2 (by rw[e];rfl)⟩,f,rfl⟩) (by simpa using s),λj u m=>?_⟩;have v:j<n:=by rw[<-r _ (zFe a)];exact(zFc.1 m).1
 have:=l.cells (g:=g) rfl (k*n+j) u (by rw[jd Prod.snd ps r k j a v];exact m)
 rwa [yw]at this
end
section
variable {w:World} {ops:Array Oper} {rest:List Oper} {op:Oper} {a:Act} {Q:Exit->Act->World->Prop} {ts t n by':Nat}
end
theorem jw {w : World} {op : Oper} {a : Act} {K : Act → World → Prop} {Q : Exit → Act → World → Prop} {ts t n by' : Nat} (h : L6 ts t n by') (x : Operand) (c : op.op = Op.load t x) {g o : Nat} (d : a.eval x = .pointer (some ⟨g, o, none⟩)) (b : List Value) (i : b.length = n) (e : ∀ (j : Nat) (u : Value), b[j]? = some u → w.cell? ⟨g, o + j, none⟩ = some u)
  (f:K (a.put op.dst (.agg b.toArray)) w):op.wp prog a w K Q:=by
 unfold Oper.wp;simp[execOp,c,d,dW h.agg (aY h.toZL) b i e,Result.andThen];exact f
theorem dB.two {S:Nat->Prop} {d f w2:World} {g:Nat} (i:d.grownBy f (some g)) (h:d.grownBy w2 (some g)) (c:∀b,S b->b<d.heap.size/\b≠g):dB S S f w2:=λb hb _=>
 have a:some b≠some g:=λe=>(c b hb).2 (by injection e)
 ⟨hb,zFs (c b hb).1 h.size,(h.block b (c b hb).1 a).trans (i.block b (c b hb).1 a).symm⟩
theorem Bd.wide {α:Type} {n:Nat} {P:(Nat->Prop)->α->List Value->World->Prop} [CK n P] {S S2:Nat->Prop} {base c t:Nat} {xs:List α} {v:Value} {w:World} (h:Bd S base t n P xs v w) (d:∀b,S b->S2 b) (hb:c<=base):Bd S2 c t n P xs v w:=by
 obtain⟨ps,e,i,g⟩:=h;exact⟨ps,e,bV i hb,λp f=>CK.keep (λb hb a=>⟨⟨d b hb.1,hb.2⟩,a,rfl⟩) (g p f)⟩
theorem Bd.r {α:Type} {n:Nat} {P:(Nat->Prop)->α->List Value->World->Prop} [CK n P] {S:Nat->Prop} {base t:Nat} {xs:List α} {v:Value} {w:World} (h:Bd S base t n P xs v w):SlR P S xs v w:=by
 obtain⟨ps,e,d,g⟩:=h;obtain⟨A,c,rfl,_⟩:=aK d;exact⟨A,c,rfl,ps,e,fM d,λp f=>CK.keep (λb hb a=>⟨hb.1,a,rfl⟩) (g p f)⟩
theorem Ob {w w':World} (h:w.grownBy w' none):Below w w w':=⟨h.os,h.tape,h.output,h.size,λk a=>h.block k a (by simp)⟩
theorem VI {w : World} {op : Oper} {a : Act} {Q : Exit → Act → World → Prop} {ts t n by' : Nat} {α : Type} {P : (Nat → Prop) → α → List Value → World → Prop} [CK n P] {S : Nat → Prop} {K : Act → World → Prop} (h : L6 ts t n by') (s x : Operand) (r : op.op = .call { callee := .builtin .append, args := #[s, x], argTypes := #[ts, ts] }) {base : Nat} {xs : List α} {v : Value} (E : a.eval s = v) (I : Bd S base t n P xs v w)
  {g c:Nat} (W:a.eval x=.slice (some ⟨g,0,none⟩) 1 c) (cs:List Value) (F:Bk w g t cs.toArray) (e:α) (u:P (λq=>S q/\some q≠v.ownBlock) e cs w) (Z:xs.length<=1000000000000) (hb:base<=w.heap.size)
  (Y:∀f c' w',Bd S base t n P (xs++[e]) (.slice f (xs.length+1) c') w'->Fr base w w'->w.grownBy w' v.ownBlock->((Value.slice f (xs.length+1) c').ownBlock=v.ownBlock\/(Value.slice f (xs.length+1) c').ownBlock=some w.heap.size)->K (a.put op.dst (.slice f (xs.length+1) c')) w'):op.wp prog a w K Q:=by
 obtain⟨z,H,U⟩:=h.inf;obtain⟨i,R,G,J,X⟩:=zG4 H;obtain⟨d,O,A⟩:=h.le;obtain⟨ps,L,D,N⟩:=I;have C:=CK.len u;refine iH s x ts r base t i z n by' h.und R G J X U d v _ _ E D (g+1) (some ⟨g,0,none⟩) 1 c cs W (Rd.bk F (by omega)) (by omega) (zGu.1 (CK.one u)) (by unfold maxLen;omega) (zFi (zJ5 (by omega:_<=1000000000001) A) (by decide)) hb ?_
 intro f c' w' M l j
 have k:dB (λq=>S q/\some q≠v.ownBlock) (λq=>S q/\some q≠(Value.slice f (xs.length+1) c').ownBlock) w w':=λb hb m=>⟨⟨hb.1,by
  rcases j with e|e
  ·rw[e];exact hb.2
  rw[e];intro o;injection o with o;omega⟩,by have:=l.size;omega,l.block b m hb.2⟩
 refine Y f c' w' ⟨ps++[(e,cs)],by simp[L],by rw[zGz];simpa using M,λp d=>?_⟩ (λB a0 o m y=>eU y D o l m) l j;rcases zFy.1 d with d|d
 ·exact CK.keep k (N p d)
 simp only[zF6,zGi,zHt]at d;subst d;exact CK.keep k u
theorem bu {w : World} {ops : Array Oper} {rest : List Oper} {op : Oper} {a : Act} {Q : Exit → Act → World → Prop} {ts t n by' : Nat} {α : Type} {P : (Nat → Prop) → α → List Value → World → Prop} [CK n P] {S : Nat → Prop} (h : L6 ts t n by') (l : op.guard = none) (s x : Operand) (f : op.op = .call { callee := .builtin .append, args := #[s, x], argTypes := #[ts, ts] }) {base : Nat} {xs : List α} {v : Value} (i : a.eval s = v) (j : Bd S base t n P xs v w)
  {g c:Nat} (r:a.eval x=.slice (some ⟨g,0,none⟩) 1 c) (cs:List Value) (m:Bk w g t cs.toArray) (e:α) (z:P (λq=>S q/\some q≠v.ownBlock) e cs w) (A:xs.length<=1000000000000) (hb:base<=w.heap.size)
  (u:∀b c' w',Bd S base t n P (xs++[e]) (.slice b (xs.length+1) c') w'->Fr base w w'->w.grownBy w' v.ownBlock->((Value.slice b (xs.length+1) c').ownBlock=v.ownBlock\/(Value.slice b (xs.length+1) c').ownBlock=some w.heap.size)->wpList prog ops Q rest (a.put op.dst (.slice b (xs.length+1) c')) w'):wpList prog ops Q (op::rest) a w:=
 zH8 l λ_ d=>VI h s x f i j r cs m e z A hb λb c' w' k p o y=>d _ _ (u b c' w' k p o y)
theorem Sl.lo {α:Type} {n:Nat} {P:(Nat->Prop)->α->List Value->World->Prop} [CK n P] {S:Nat->Prop} {xs:List α} {v:Value} {w:World} (h:Sl P S xs v w):Sl P (λq=>S q/\q<w.heap.size) xs v w:=h.keep λb hb a=>⟨⟨hb,a⟩,a,rfl⟩
theorem zu:∀(ps:List (Int×List Value)),(∀p∈ps,p.2=[.int .i64 p.1])->ps.flatMap Prod.snd=dw (ps.map Prod.fst)
 |[],_=>rfl
 |p::ps,h=>by
  rw[zGx,zu ps (λq a=>h q (by simp[a])),h p (by simp)];rfl
theorem Bd.ownI {S:Nat->Prop} {base:Nat} {xs:List Int} {v:Value} {w:World} (h:Bd S base 3 1 gK xs v w):w.ownsRow base 3 1 v xs.length (dw xs):=by
 obtain⟨ps,rfl,a,c⟩:=h;rw[<-zu ps (λp b=>c p b)];exact a
theorem Bd.ofI {S:Nat->Prop} {base:Nat} {xs:List Int} {v:Value} {w:World} (h:w.ownsRow base 3 1 v xs.length (dw xs)):Bd S base 3 1 gK xs v w:=by
 refine⟨xs.map (λk=>(k,[.int .i64 k])),by rw[zHh];exact zLc _,?_,λp a=>?_⟩
 ·rw[zu _ (λp a=>by obtain⟨k,_,rfl⟩:=zGa.1 a;rfl),zHh];rw[show xs.map (Prod.fst ∘ λk=>(k,[Value.int .i64 k]))=xs from zLc _];exact h
 obtain⟨k,_,rfl⟩:=zGa.1 a;rfl
def GoodS (i:Nat) (s:fQ):Prop:=(-1<=s.parent/\s.parent<i)/\∀(j:Nat) (h:j<s.ends.length),0<=s.ends[j].branch
def zAd (ax:Int) (bs:List fQ):Prop:=(1<=ax/\ax<=3)/\bs.length<=32/\∀(i:Nat) (h:i<bs.length),GoodS i bs[i]
def FY (bs:List fQ):Nat->Nat->List Nat
 |0,_=>[]
 |f+1,i=>match bs[i]? with
  |none=>[]
  |some s=>(if 0<=s.parent then FY bs f s.parent.toNat else[])++[i]
def lh (bs:List fQ) (i:Nat):List Nat:=FY bs (i+1) i
theorem wV (bs:List fQ) (a:∀(i:Nat) (h:i<bs.length),GoodS i bs[i]):∀(f i:Nat),i<f->FY bs f i=lh bs i
 |0,i,h=>by omega
 |f+1,i,h=>by
  unfold lh
  show(match bs[i]? with|none=>[]|some s=>(if 0<=s.parent then FY bs f s.parent.toNat else[])++[i])=(match bs[i]? with|none=>[]|some s=>(if 0<=s.parent then FY bs i s.parent.toNat else[])++[i])
  cases b:bs[i]? with
  |none=>rfl
  |some s=>
   simp only
   split
   ·obtain⟨c,b⟩:=zFc.1 b;have:=(a i c).1;rw[b]at this;rw[wV bs a f _ (by omega),wV bs a i _ (by omega)]
   rfl
theorem uf {bs:List fQ} (a:∀(i:Nat) (h:i<bs.length),GoodS i bs[i]) {i:Nat} (h:i<bs.length):lh bs i=(if 0<=bs[i].parent then lh bs bs[i].parent.toNat else[])++[i]:=by
 show(match bs[i]? with|none=>[]|some s=>(if 0<=s.parent then FY bs i s.parent.toNat else[])++[i])=_
 rw[zAg h];simp only
 split
 ·have:=(a i h).1;rw[wV bs a i _ (by omega)]
 rfl
theorem DD {bs:List fQ} (b:∀(i:Nat) (h:i<bs.length),GoodS i bs[i]):∀(n i:Nat),i<n->i<bs.length->(lh bs i).length<=i+1/\∀k∈lh bs i,k<=i
 |0,i,h,_=>by omega
 |n+1,i,h,c=>by
  rw[uf b c]
  split
  ·have e:=(b i c).1;have d:=DD b n bs[i].parent.toNat (by omega) (by omega);refine⟨by simp;omega,λk a=>?_⟩;rcases zFy.1 a with a|a
   ·have:=d.2 k a;omega
   simp at a;omega
  exact⟨by simp,λk a=>by simp at a;omega⟩
def jf:Nat->List dU->List Nat
 |_,[]=>[]
 |i,p::l=>if p.form=3 then jf (i+1) l else i::jf (i+1) l
section
set_option maxRecDepth 100000
set_option maxHeartbeats 8000000
theorem uP:∀(l:List dU) (i:Nat),∀x∈jf i l,i<=x/\x<i+l.length
 |[],i,x,h=>absurd h (by simp[jf])
 |p::l,i,x,h=>by
  unfold jf at h;have a:=uP l (i+1)
  split at h
  ·have:=a x h;simp only[zFh];omega
  rcases zF6.1 h with rfl|h
  ·simp
  have:=a x h;simp only[zFh];omega
theorem yB:∀(l:List dU) (i:Nat),(jf i l).Pairwise (·<·)
 |[],i=>List.Pairwise.nil
 |p::l,i=>by
  unfold jf
  split
  ·exact yB l (i+1)
  exact zK6.2 ⟨λx a=>(uP l (i+1) x a).1,yB l (i+1)⟩
theorem KX (l:List dU):∀i,(jf i l).length<=l.length:=by
 induction l with
 |nil=>intro i;exact zFv _
 |cons p l a=>
  intro i;have:=a (i+1);unfold jf
  split<;>simp only[zFh]<;>omega
theorem Ia {d:Nat} {S:Nat->Prop} {b:dL} {cs:List Value} {w:World} (h:xh d S b cs w):Calls prog 25 #[.agg cs.toArray] w (Ro (λ_=>False) 3 1 gK (ints (jf 0 b.ps)) w):=by
 obtain⟨_,rfl,y,u,rfl,B,e⟩:=h;obtain⟨n,j⟩:=zN b.ps.length
 obtain⟨R,f⟩:=zN (ints (jf 0 b.ps))
 have m:=zH (zA f j);rw[j]at B⊢;rw[f]
 go_enter func25,ntmps25
 go_upto_region 1 with fail
 have l:=Bk.new w 67 #[b.id,b.window,.slice y n u];have a:=ba w (.cells #[b.id,b.window,.slice y n u] 67);generalize w.alloc (.cells #[b.id,b.window,.slice y n u] 67)=q at *;have F:=zH (e.old a);have L:=zH a;have s:=a.size;have p:=l.cell 2;clear l a e f j;go_wp2_with fail
 clear p
 go_loopw[3,9] (λv i wr=>∃(k:Nat) (xs:List Int) (A:Option Addr) (c:Nat),k<=n/\i=.int .i64 k/\v=.slice A xs.length c/\xs.length<=k/\Hid (xs++ints (jf k (b.ps.drop k))=R)/\Hid (Bd (λ_=>False) q.heap.size 3 1 gK xs (.slice A xs.length c) wr/\Below q q wr)) (λ_ i _=>n-(intOf i).toNat)
 case atStart=>exact⟨0,[],none,0,zFj _,rfl,rfl,zFv _,zH (by rw[zFp,List.nil_append];exact m.1),zH ⟨Bd.nil zL,zGp _ _⟩⟩
 case round=>
  obtain⟨x,rfl⟩:∃z:World,z=wr:=⟨_,rfl⟩
  obtain⟨k,xs,A,c,Q,rfl,rfl,I,C,p⟩:=hrel;have E:=p.2.size
  by_cases l:k<n
  ·have t:k<b.ps.length:=by rw[m.2];exact l
   obtain⟨g,o,cs,rfl,_,X,e,D⟩:=(F.old p.2).elem t;have a:=CK.len e;go_upto_region 5 with(first|(refine aj jU rfl _ rfl rfl cs a D ?_)|(refine ae (aY jU.1) rfl _ _ rfl rfl cs rfl (Bk.new _ _ _) a rfl (CK.one e) ?_;intro W1 p1;go_frame))
   obtain⟨Y,W,rfl,_,_⟩:=e;have f:Below x x W1:=p1.below _ _ (ba _ _) zL;obtain⟨r,j⟩:=zN (b.ps[k])
   rw[j]at p1;have H:W1.cell? ⟨x.heap.size,0,none⟩=some (.int .i64 (r.form:Nat)):=p1.bk.cell 0;have z:=zH (zA (p.1.old f) (p.2.trans (f.mono E)));have N:=f.size;have e:=C.out;rw[zFk t,j,jf]at e;clear p1 D a j f
   by_cases f:r.form=3
   ·rw[f]at H;rw[zF3 f]at e;have e:=zH e;go_wp2_with fail
    exact⟨⟨k+1,xs,A,c,l,by go_num,rfl,by omega,e,z⟩,by simp[intOf];omega⟩
   have a:¬((r.form:Nat):Int)=3:=by omega
   have j:(((r.form:Nat):Int)==3)=false:=by rw[zFz];exact a
   have O:(((r.form:Nat):Int) !=3)=true:=by rw[zG1];exact a
   rw[zF2 f]at e;have e:=zH e;go_wp2_with (at_builtin;refine oO PQ rfl _ _ rfl rfl (z.1.old (ba _ _)) rfl (zCj (Bk.newAt (by simp) _ _)) (λb h=>h.elim) (by simp;omega) (by simp;omega) ?_;intro J G P D K U)
   have M:Below q q P:=K _ _ zL (by simp;omega) (z.2.alloc (by omega) _);refine⟨⟨k+1,xs++[(k:Int)],J,G,l,by go_num,by simp,by simp;omega,zH ?_,zH ⟨by simpa using D,M⟩⟩,by simp[intOf];omega⟩;rw[<-e.out];simp[ints]
  obtain rfl:k=n:=by omega
  have a:R=xs:=by
   have:=C.out;rw[zFq (by rw[m.2];exact zFv _)]at this
   simpa[jf,ints]using this.symm
  subst a;go_wp2_with fail
  go_ret
  exact⟨A,c,rfl,p.1.NU s,L.trans (p.2.mono s)⟩
end
end Go.Proofs.YtbjnhllkdilpfaaGreat
