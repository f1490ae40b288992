/- Part 52 of the proof. No conditions. -/
import Derived.Test.YtbjnhllkdilpfaaGreatZf35
set_option linter.unusedVariables false
set_option linter.unusedSimpArgs false
set_option maxRecDepth 100000
set_option maxHeartbeats 16000000
namespace Go.Proofs.YtbjnhllkdilpfaaGreat
open Go.RowKit _root_.Go.Proofs.Tryz
theorem WR {W w:World} {c:Option Nat} {b o:Nat} {v:Value} (d:W.grownBy w c) (hb:some b≠c) (h:W.cell? ⟨b,o,none⟩=some v):w.cell? ⟨b,o,none⟩=some v:=(zJe (a:=⟨b,o,none⟩) (d.block b (zHs _ _ h) hb)).trans h
theorem Qp {w:World} {S:Nat->Prop} {A:Option Addr} {g t:Nat} {cs:Array Value} {ns:List ah} (h:Q3 w S A (ns.flatMap ah.cells)) (i:Bk w g t cs) (l:cs.size<7):Q3 w (λq=>S q/\q≠g) A (ns.flatMap ah.cells):=by
 rcases h with h|⟨b,o,f,k,j,d⟩
 ·exact .inl h
 cases ns with
 |nil=>exact .inl rfl
 |cons n ns=>
  refine .inr ⟨b,o,f,⟨k,λe=>?_⟩,j,d⟩;subst e;obtain⟨op,kind,m,e,c,vk,vb,pos,a⟩:=n;have:=d 6 (.int .i64 a) rfl;rw[i.cell,zHz (by omega)]at this;cases this
theorem Qq {w:World} {S:Nat->Prop} {g t:Nat} {cs:Array Value} (a:Bk w g t cs) (b:cs.size<7):∀{d:Nat} {n:ah},okS S d n w->okS (λq=>S q/\q≠g) d n w
 |0,_,h=>h
 |d+1,.mk ..,h=>⟨Qp h.1 a b,h.2.1,h.2.2.1,λx c=>Qq a b (h.2.2.2 x c)⟩
theorem Nd.off {d:Nat} {S:Nat->Prop} {a:List T} {v:Value} {w:World} {g t:Nat} {cs:Array Value} (h:Nd d S a v w) (b:Bk w g t cs) (e:cs.size<7):Nd d (λq=>S q/\q≠g) a v w:=by
 obtain⟨A,c,ns,i,k,j,l⟩:=h;exact⟨A,c,ns,i,Qp k b e,λy f=>Qq b e (j y f),l⟩
theorem Zd {w : World} {op : Oper} {a : Act} {Q : Exit → Act → World → Prop} {C t n r : Nat} {α : Type} {P : (Nat → Prop) → α → List Value → World → Prop} [CK n P] {S S2 : Nat → Prop} {K : Act → World → Prop} (h : ZL C t n r) (s x : Operand) (E : op.op = .call { callee := .builtin .append, args := #[s, x], argTypes := #[C, C] }) {base : Nat} {xs f : List α} {v u : Value} (J : a.eval s = v) (O : Bd S base t n P xs v w)
  (hx:a.eval x=u) (hY:SlR P S2 f u w) (M:∀b,S2 b->b<w.heap.size->S b/\some b≠v.ownBlock) (hl:xs.length+f.length<=1000000000000) (hb:base<=w.heap.size)
  (hK:∀l c' w',Bd S base t n P (xs++f) (.slice l (xs.length+f.length) c') w'->w.grownBy w' v.ownBlock->((Value.slice l (xs.length+f.length) c').ownBlock=v.ownBlock\/(Value.slice l (xs.length+f.length) c').ownBlock=some w.heap.size)->K (a.put op.dst (.slice l (xs.length+f.length) c')) w'):op.wp prog a w K Q:=by
 obtain⟨z,N,h2⟩:=h.inf;obtain⟨i,hi,L,R,h4⟩:=zG4 N;obtain⟨d,Z,G⟩:=h.le;obtain⟨ps,X,W,Y⟩:=O;obtain⟨A,c,rfl,F,H,U,k⟩:=hY;have o:(F.flatMap Prod.snd).length=f.length*n:=by rw[jl Prod.snd F λp d=>CK.len (k p d),<-H,zF5]
 refine iH s x C E base t i z n r h.und hi L R h4 h2 d v _ _ J W w.heap.size A f.length c _ hx U o ?_ (by unfold maxLen;omega) (zFi (zJ5 hl G) (by decide)) hb ?_
 ·intro u e;obtain⟨p,d,e⟩:=zGn.1 e;exact zGu.1 (CK.one (k p d)) u e
 intro l c' w' D j B
 have y:∀{e:Nat->Prop},(∀b,e b->b<w.heap.size->S b/\some b≠v.ownBlock)->dB e (λq=>S q/\some q≠(Value.slice l (xs.length+f.length) c').ownBlock) w w':=λm b hb g=>⟨⟨(m b hb g).1,by
  rcases B with e|e
  ·rw[e];exact(m b hb g).2
  rw[e];intro I;injection I with I;omega⟩,by have:=j.size;omega,j.block b g (m b hb g).2⟩
 refine hK l c' w' ⟨ps++F,by rw[zGr,X,H],by rw[zGz,zFu];exact D,λp d=>?_⟩ j B;rcases zFy.1 d with d|d
 ·exact CK.keep (y λb hb _=>hb) (Y p d)
 exact CK.keep (y M) (k p d)
section
set_option maxRecDepth 100000
set_option maxHeartbeats 16000000
theorem zE6 {d:Nat} {S:Nat->Prop} {ax:Int} {ks:List Int} {bs:List fQ} {cs:List Value} {w:World} (U:zAd ax bs) (b5:SmT bs) (bq:Ik (Oo bs bs.length)) (h:wO d S ax ks bs cs w):Calls prog 14 #[.agg cs.toArray] w λe w'=>∃f,e=.returned (.agg f.toArray)/\dO d (λq=>w.heap.size<=q) ax ks (Oo bs bs.length) f w'/\Below w w w':=by
 have wZ:=zH U;have a5:=zH b5;have be:=zH bq;clear U b5 bq;obtain⟨kv,bv,rfl,hk,hb⟩:=h;obtain⟨Ak,ck,rfl⟩:=hk.form;obtain⟨Ab,cb,f,bw,hb⟩:=hb;subst f;have t:=zH hk;have HR:=zH hb.lo;clear hk hb
 go_enter func14,ntmps14
 go_upto_region 1 with fail
 obtain⟨w0,f⟩:=zN ((w.alloc (.cells #[ax,.slice Ak ks.length ck,.slice Ab bs.length cb] 38)).alloc (.cells #[(),"",""] 29))
 have B:Bk w0 w.heap.size 38 #[ax,.slice Ak ks.length ck,.slice Ab bs.length cb]:=f▸(Bk.new _ _ _).alloc _;have k2:Bk w0 (w.heap.size+1) 29 #[(),"",""]:=f▸Bk.newAt (by simp) _ _;have m:Below w w w0:=f▸bel2 w _ _;simp only[f];clear f;have x0:w0.cell? ⟨w.heap.size,0,none⟩=some (.int .i64 ax):=B.cell 0;have G:w0.cell? ⟨w.heap.size,1,none⟩=some (.slice Ak ks.length ck):=B.cell 1
 refine wx (λk=>k==6) [.is (.pointer (some ⟨w.heap.size,0,none⟩)),.is (.int .i64 ax),.is (.pointer (some ⟨w.heap.size,1,none⟩)),.is (.slice Ak ks.length ck),
  sS (xg ks.length (Bd (λ_=>False) w0.heap.size 3 1 gK ks) λA c=>.slice A ks.length c),sS (xg ks.length (Bd (λ_=>False) w0.heap.size 3 1 gK ks) λA c=>.agg #[ax,.slice A ks.length c,""]),
  .st (λv w=>∃g,v=.pointer (some ⟨g,0,none⟩)/\w0.heap.size<=g/\Bk w g 29 #[(),"",""]) (λ_ _ _ hb ⟨g,n,h0,E⟩=>⟨g,n,h0,E.old hb⟩)] [4,5,6] (by kernel_rfl) (by kernel_rfl) (by kernel_rfl)
  (λC=>.c (px C rfl (λ_ _=>rfl)) <| .c (px C rfl (λ_ h=>bH (lD (bc h x0)))) <| .c (px C rfl (λ_ _=>rfl)) <| .c (px C rfl (λ_ h=>bH (Gq (bc h G)))) <|
   .c (pz [3] [] (by kernel_rfl) λqK qa wr s J l H=>?_) <| .c (pz [1,4] [] (by kernel_rfl) λqK qa wr s J l H=>?_) <| .c (pf [] [] (by kernel_rfl) λqK qa wr s J l H=>?_) .nil) ?_
 ·exact xZ (.tmp 17) rfl (aB (aA l.1 rfl rfl)) ((t.keep (.old m)).keep (.old s)) λA c w' n E=>H _ _ E ⟨A,c,rfl,n.NU s.size⟩
 ·have F:=aA l.1 rfl rfl;obtain⟨u18,f,A,c,rfl,D⟩:=l.2.1;have f:qa.tmps[18]? =some (.slice A ks.length c):=f;clear J l;go_simp;exact H _ _ zR ⟨A,c,rfl,D⟩
 ·clear J l;go_simp;exact H _ _ (ba _ _) ⟨_,rfl,s.size,Bk.new _ _ _⟩ ⟨_,rfl,by simp,by simp⟩
 intro qx wr s hR hS;obtain⟨A3,c3,r5,D⟩:=hR 5 rfl rfl;obtain⟨g3,f,d8,k3⟩:=hR 6 rfl rfl;clear hR hS;simp only[bJ,List.length,List.take,List.drop,zFd]
 go_frame
 generalize qx 6=z6 at f⊢;generalize qx 5=z5 at r5⊢;subst f r5;go_upto_region 2 with(refine ae aP rfl _ _ rfl rfl [.int .i64 ax,.slice A3 ks.length c3,.slice none 0 0] rfl k3 rfl rfl rfl ?_;intro I p0;go_frame)
 have br:=p0.size;have F:=s.size;have dd:=k2.lt;have K:=k3.lt;have f:Below w.heap.size w I:=p0.below _ _ (m.trans (s.mono m.size)) (by omega);have oK:Hid (Bk I w.heap.size 38 #[ax,.slice Ak ks.length ck,.slice Ab bs.length cb]/\Bk I (w.heap.size+1) 29 #[(),"",""]/\Sl gK (λq=>w0.heap.size<=q/\some q≠some g3) ks (.slice A3 ks.length c3) I):=zH ⟨p0.zJ (B.old s) (by omega),p0.zJ (k2.old s) (by omega),?keys⟩
 case keys=>exact(D.Kq (S:=λq=>w0.heap.size<=q/\some q≠some g3) (λb hb he=>⟨hb,λe=>D.ne k3 (by decide) (e.symm.trans he.symm)⟩) (λb h=>h.elim) t.le).keep (dB.fE p0 λb hb e=>hb.2 (zGv some e))
 have HG:=zH p0;have cz:=zH ((t.lo).keep (.old f));have b1:=zH f;have aa:=zH (HR.old f);have df:=m.size;have ct:g3<I.heap.size:=p0.bk.lt;have d4:w0.heap.size<=I.heap.size:=by omega
 clear p0 B k2 k3 s m f x0 G D br F t K;have y2:=oK.1.cell 2;go_wp2_with fail
 go_loopw[23] (λi wr=>∃(k:Nat) (v:Value),k<=bs.length/\i=.int .i64 k/\Hid (I.grownBy wr (some g3)/\Bk wr g3 29 #[ax,.slice A3 ks.length c3,v]/\Bd (λq=>I.heap.size<=q) I.heap.size 67 3 (xh d) (Oo bs k) v wr)) (λi _=>bs.length-(intOf i).toNat)
 case atStart=>exact⟨0,_,zFj _,rfl,zH ⟨zF8 _ _,HG.bk,Bd.nil zL⟩⟩
 case round=>
  obtain⟨wo,rfl⟩:∃z:World,z=wr:=⟨_,rfl⟩
  obtain⟨k,v,hk,rfl,W⟩:=hrel;have bt:=W.1.size
  by_cases f:k<bs.length
  ·obtain⟨b,o,cs,m,db,hb,hP,G⟩:=(aa.keep (dB.gV W.1 λb hb=>by omega)).elem f;subst m;have N:=CK.len hP;go_upto_region 5 with(first|(refine aj yu rfl _ rfl rfl cs N G ?_)|(refine ae (aY yu.1) rfl _ _ rfl rfl cs rfl (Bk.new _ _ _) N rfl (CK.one hP) ?_;intro V1 p1;go_frame))
   obtain⟨v4,v5,v6,v7,rfl,_,_,_,Ap,cp,rfl,a7,B⟩:=hP;have Iz:Below wo wo V1:=p1.below _ _ (ba _ _) zL;have dc:wo.heap.size<V1.heap.size:=by rw[p1.size];simp
   obtain⟨F,t⟩:=zN (bs[k])
   rw[t]at a7 B p1;have ca:Hid (Rw (Oa d) (λq=>S q/\q<w.heap.size) F.ends Ap V1):=zH (B.old Iz);have a9:Hid (iD bs k=F/\bs[k]=F):=zH ⟨(uO f).trans t,t⟩;have ar:Hid (I.grownBy V1 (some g3)/\Bk V1 g3 29 #[ax,.slice A3 ks.length c3,v]/\Bd (λq=>I.heap.size<=q) I.heap.size 67 3 (xh d) (mY bs k 0) v V1/\Bk V1 wo.heap.size 62 #[F.parent,F.type,.bool F.many,F.window,v4,v5,v6,.slice Ap F.ends.length cp]):=zH ⟨dD W.1 (Iz.mono bt),W.2.1.old Iz,by rw[Oq];exact W.2.2.old Iz,p1.bk⟩;have QK:=zH (dD W.1 (Iz.mono bt));have x7:=p1.bk.cell 7;obtain⟨m,D⟩:=zN F.ends.length
   rw[D]at x7 a7 ar;have HM:=zH D;clear B p1 G N t W D;go_wp2_with fail
   clear x7
   go_loopw[31] (λi wr=>∃(j:Nat) (v:Value),j<=m/\i=.int .i64 j/\Hid (V1.heap.size<=wr.heap.size/\I.grownBy wr (some g3)/\Bk wr g3 29 #[ax,.slice A3 ks.length c3,v]/\Bd (λq=>I.heap.size<=q) I.heap.size 67 3 (xh d) (mY bs k j) v wr/\Bk wr wo.heap.size 62 #[F.parent,F.type,.bool F.many,F.window,v4,v5,v6,.slice Ap m cp])) (λi _=>m-(intOf i).toNat)
   case atStart=>exact⟨0,v,zFj _,rfl,zH ⟨zFv _,ar.out⟩⟩
   case round=>
    clear ar;obtain⟨K,rfl⟩:∃z:World,z=wr:=⟨_,rfl⟩
    obtain⟨j,v,hj,rfl,hJ⟩:=hrel;have d3:=hJ.1
    by_cases bj:j<m
    ·have ab:j<F.ends.length:=by rw[HM.out];exact bj
     obtain⟨b2,o2,bd,t,_,dg,D,M⟩:=(ca.keep (dB.two QK.out hJ.2.1 λb hb=>⟨by omega,by omega⟩)).elem ab;subst t;have t:=CK.len D;go_upto_region 8 with(first|(refine aj Dy rfl _ rfl rfl bd t M ?_)|(refine ae (aY Dy.1) rfl _ _ rfl rfl bd rfl (Bk.new _ _ _) t rfl (CK.one D) ?_;intro B p2;go_frame))
     obtain⟨gv,uv,rfl,U,hu⟩:=D;obtain⟨D,L⟩:=zN (F.ends[j])
     have a1:=(wZ.2.2 k f).2;rw[a9.2]at a1;have a1:=a1 j ab;rw[L]at U hu p2 a1;have NJ:=zH L;obtain⟨Ag,cg,rfl⟩:=U.form;obtain⟨Au,cu,rfl⟩:=hu.form;obtain⟨kL,O⟩:∃z:Nat,D.branch=z:=⟨D.branch.toNat,by omega⟩
     rw[O]at p2;have Pj:=zH O;have G:Below K K B:=p2.below _ _ (ba _ _) zL;have d6:K.heap.size<B.heap.size:=by rw[p2.size];simp
     have jM:=zH (zA (U.keep (.old G)) (zA (hu.keep (.old G)) (zA p2.bk (zA (hJ.2.2.2.2.old G) G))));have y0:=jM.2.2.1.cell 0;have y1:=jM.2.2.1.cell 1;have Q:=jM.2.2.2.1.cell 3;clear O L U hu p2 M t a1;go_upto_region 9 with(refine ae (aY gW.1) rfl _ _ rfl rfl [.int .i64 (kL:Nat),.int .i64 F.window,.slice none 0 0] rfl (Bk.new _ _ _) rfl rfl rfl ?_;intro V3 L;go_frame)
     have t:Below B B V3:=L.below _ _ (ba _ _) zL;have d7:B.heap.size<V3.heap.size:=by rw[L.size];simp
     have d0:=L.bk.lt;have yG:=zH (zA L.bk t);have aq:Below K K V3:=jM.2.2.2.2.trans (t.mono jM.2.2.2.2.size);have kA:Bk V3 w.heap.size 38 #[ax,.slice Ak ks.length ck,.slice (some ⟨b,o,none⟩) bs.length cb]:=(oK.1.grown hJ.2.1 (by simp;omega)).old aq;have M:Hid (wO d (λq=>S q/\q<w.heap.size) ax ks bs [.int .i64 ax,.slice Ak ks.length ck,.slice (some ⟨b,o,none⟩) bs.length cb] V3):=zH ⟨_,_,rfl,(cz.keep (dB.gV hJ.2.1 λb hb=>by omega)).keep (.old aq),_,cb,rfl,bw,(aa.keep (dB.gV hJ.2.1 λb hb=>by omega)).keep (.old aq)⟩;have X:=zH (zE4 wZ.2.2 wZ.2.1 f M.out);have bp:=zH kA;clear Q y0 y1 L kA t M G;go_wp2_with (refine aV gZ zq rfl (.tmp 1) rfl rfl [.int .i64 ax,.slice Ak ks.length ck,.slice (some ⟨b,o,none⟩) bs.length cb] rfl (λi v hv=>by rw[zFr,bp.cell i];simpa using hv) ?_)
     refine X.mono ?_;rintro e W4 ⟨cm,cf,rfl,R,t⟩;obtain⟨P,hP⟩:=zN (lh bs k)
     have a7:=DD wZ.2.2 (k+1) k (by omega) f;rw[hP]at R a7⊢;obtain⟨np,Q⟩:=zN ((ints P).length)
     have O:P.length=np:=by rw[<-Q];simp[ints]
     have L:k<32:=zFs f wZ.2.1;have cq:np<=32:=by omega
     obtain⟨c0,d9,M,_,G⟩:=R.Kq (S:=λb=>V3.heap.size<=b) (λb hb _=>hb) (λb hb _=>hb.elim) (by omega);have e1:cm=c0:=by injection M
     subst e1;rw[Q];have HP:=zH (zA hP (zA a7.2 (zA Q O)));have b4:=zH G;have ap:=zH t;have da:=t.size;clear hP a7 R t Q O X M G L;go_wp2_with fail
     go_loopw[45] (λi wr=>∃(q:Nat) (xs:List dU) (A:Option Addr) (c:Nat),q<=np/\i=.int .i64 q/\Hid (xs++jV bs D.cs (P.drop q)=jV bs D.cs P)/\Hid (W4.grownBy wr (some B.heap.size)/\Bk wr B.heap.size 67 #[.int .i64 (kL:Nat),F.window,.slice A xs.length c]/\Bd (λb=>W4.heap.size<=b) W4.heap.size 69 4 (KI d) xs (.slice A xs.length c) wr)) (λi _=>np-(intOf i).toNat)
     case atStart=>exact⟨0,[],none,0,zFj _,rfl,zH rfl,zH ⟨zF8 _ _,yG.1.old ap.out,Bd.nil zL⟩⟩
     case round=>
      obtain⟨wk,rfl⟩:∃z:World,z=wr:=⟨_,rfl⟩
      obtain⟨q,xs,Ax,cx,hq,rfl,hX,hQ⟩:=hrel;have bo:=hQ.1.size;have DZ:Below B B wk:=(yG.2.trans (ap.mono (by omega))).grown hQ.1 (by omega) (λb hb=>by injection hb with hb;omega);have WS:Below K K wk:=jM.2.2.2.2.trans (DZ.mono jM.2.2.2.2.size)
      by_cases bh:q<np
      ·have bm:q<P.length:=by rw[HP.2.2.2];exact bh
       have bl:q<(ints P).length:=by rw[HP.2.2.1];exact bh
       obtain⟨pg,po,d5,L,_,_,G,t⟩:=(b4.keep (dB.gV (S:=λb=>V3.heap.size<=b) hQ.1 λb hb=>by omega)).elem bl;subst L;obtain rfl:=G;have Oz:=t 0 _ rfl;rw[Ls bl,zLe,Nat.add_zero]at Oz;have co:=HP.2.1 _ (zFe bm);obtain⟨x,G⟩:=zN (P[q])
       rw[G]at Oz co;have HX:=zH G;have b6:x<bs.length:=by omega
       obtain⟨b9,o9,NW,ao,_,dM,M,Q⟩:=((aa.keep (dB.gV hJ.2.1 λb hb=>by omega)).old WS).elem b6;injection ao with ao
       injection ao with e1 e2
       subst e1 e2;have iG:=CK.len M;have kA:Bk wk w.heap.size 38 #[ax,.slice Ak ks.length ck,.slice (some ⟨b,o,none⟩) bs.length cb]:=(bp.old ap.out).grown hQ.1 (by simp;omega);have x2:wk.cell? ⟨w.heap.size,2,none⟩=some (.slice (some ⟨b,o,none⟩) bs.length cb):=kA.cell 2;have c1:=zH kA;have a4:=zH (zA DZ WS);clear t G kA DZ WS;go_upto_region 14 with(first|(refine aj yu rfl _ rfl rfl NW iG Q ?_)|(refine ae (aY yu.1) rfl _ _ rfl rfl NW rfl (Bk.new _ _ _) iG rfl (CK.one M) ?_;intro L X;go_frame))
       obtain⟨x4,x5,x6,x7,rfl,i4,i5,i6,i7⟩:=M;have R:Below wk wk L:=X.below _ _ (ba _ _) zL;have de:wk.heap.size<L.heap.size:=X.bk.lt;obtain⟨t,O⟩:=zN (bs[x])
       have Z:iD bs x=t:=(uO b6).trans O;rw[O]at i4 i5 i6 X;obtain⟨A6,c6,rfl⟩:=i6.form;obtain⟨A4,c4,rfl⟩:=i4.form;have a6:=zH (zA Z (zA (i4.keep (.old R)) (zA (i6.keep (.old R)) R)));have ZI:=zH X.bk;have M:Below B B L:=a4.1.trans (R.mono a4.1.size);have kE:Bk L K.heap.size 64 #[.int .i64 (kL:Nat),.slice Ag D.cs.length cg,.slice Au D.bars.length cu]:=jM.2.2.1.old M;have cj:=zH (jM.1.keep (.old M));have y1:L.cell? ⟨wk.heap.size,1,none⟩=some (.int .i64 t.type):=ZI.cell 1;have y6:L.cell? ⟨wk.heap.size,6,none⟩=some (.slice A6 t.gs.length c6):=ZI.cell 6;have e1:L.cell? ⟨K.heap.size,1,none⟩=some (.slice Ag D.cs.length cg):=kE.cell 1;obtain⟨Y,CV⟩:=zN t.gs.length
       obtain⟨nc,G⟩:=zN D.cs.length
       rw[CV]at y6;rw[G]at e1;have MQ:=zH (zA CV G);clear O Z i4 i5 i6 i7 X Q Oz x2 iG R M kE CV G
       refine wx (λk=>k==9) [.is (.pointer (some ⟨wk.heap.size,1,none⟩)),.is (.int .i64 t.type),.is (.pointer (some ⟨wk.heap.size,6,none⟩)),.is (.slice A6 Y c6),sS (xg Y (Nd d (λq=>L.heap.size<=q) t.gs) λA c=>.slice A Y c),.is (.pointer (some ⟨K.heap.size,1,none⟩)),.is (.slice Ag nc cg),sS (xg nc (Nd d (λq=>L.heap.size<=q) D.cs) λA c=>.slice A nc c),
        .st (λv w=>∃A c G M,v=.agg #[.int .i64 1,t.type,.slice A Y c,.slice G nc M]/\Nd d (λq=>L.heap.size<=q) t.gs (.slice A Y c) w/\Nd d (λq=>L.heap.size<=q) D.cs (.slice G nc M) w) (λ_ _ _ hb ⟨A,c,G,M,n,E,h3⟩=>⟨A,c,G,M,n,E.keep (.old hb),h3.keep (.old hb)⟩),
        .st (λv w=>∃g,v=.pointer (some ⟨g,0,none⟩)/\L.heap.size<=g/\Bk w g 69 #[(),(),"",""]) (λ_ _ _ hb ⟨g,n,h0,E⟩=>⟨g,n,h0,E.old hb⟩)] [4,7,8,9] (by kernel_rfl) (by kernel_rfl) (by kernel_rfl)
        (λC=>.c (px C rfl (λ_ _=>rfl)) <| .c (px C rfl (λ_ h=>bH (lD (bc h y1)))) <| .c (px C rfl (λ_ _=>rfl)) <| .c (px C rfl (λ_ h=>bH (jD (bc h y6)))) <|
         .c (pz [3] [] (by kernel_rfl) λqK qa wr s J l H=>?_) <| .c (px C rfl (λ_ _=>rfl)) <| .c (px C rfl (λ_ h=>bH (jD (bc h e1)))) <| .c (pz [6] [] (by kernel_rfl) λqK qa wr s J l H=>?_) <|
         .c (pz [1,4,7] [] (by kernel_rfl) λqK qa wr s J l H=>?_) <| .c (pf [] [] (by kernel_rfl) λqK qa wr s J l H=>?_) .nil) ?_
       ·have a0:=aA l.1 rfl rfl;clear J l;go_simp
        go_at_call 24
        have R:=a6.2.2.1.keep (.old s);rw[MQ.1]at R;refine(rC R).mono ?_;rintro e w2 ⟨A,c,rfl,n,E⟩;rw[MQ.1]at n⊢;exact H _ _ E ⟨A,c,rfl,n.keep λq hq f=>⟨zFi s.size hq,f,rfl⟩⟩
       ·have Z:=aA l.1 rfl rfl;clear J l;go_simp
        go_at_call 24
        have R:=cj.keep (.old s);rw[MQ.2]at R;refine(rC R).mono ?_;rintro e w2 ⟨A,c,rfl,n,E⟩;rw[MQ.2]at n⊢;exact H _ _ E ⟨A,c,rfl,n.keep λq hq f=>⟨zFi s.size hq,f,rfl⟩⟩
       ·have X:=aA l.1 rfl rfl;obtain⟨u59,O,A,c,rfl,n⟩:=l.2.1;obtain⟨u62,Q,G,M,rfl,E⟩:=l.2.2.1;have O:qa.tmps[59]? =some (.slice A Y c):=O;have Q:qa.tmps[62]? =some (.slice G nc M):=Q;clear J l;go_simp;exact H _ _ zR ⟨A,c,G,M,rfl,n,E⟩
       ·clear J l;go_simp;exact H _ _ (ba _ _) ⟨_,rfl,s.size,Bk.new _ _ _⟩ ⟨_,rfl,by simp,by simp⟩
       intro qx w6 yV hR hS;obtain⟨Tq,Tt,ak,ag,G,n1,n2⟩:=hR 8 rfl rfl;obtain⟨M,Q,b0,O⟩:=hR 9 rfl rfl;clear hR hS;simp only[bJ,List.length,List.take,List.drop,zFd]
       go_frame
       generalize qx 9=z9 at Q⊢;generalize qx 8=z8 at G⊢;subst Q G;go_upto_region 15 with(refine ae (aY jU.1) rfl _ _ rfl rfl [.int .i64 (1:Nat),.int .i64 t.type,.slice Tq Y Tt,.slice ak nc ag] rfl O rfl rfl rfl ?_;intro W6 Q;go_frame)
       have R:Below L L W6:=Q.below _ _ yV b0;have X:=zH (zA ((n1.off O (by decide)).keep (dB.fE Q λb hb=>hb.2)) ((n2.off O (by decide)).keep (dB.fE Q λb hb=>hb.2)));have y2:W6.cell? ⟨wk.heap.size,2,none⟩=some (.bool t.many):=(ZI.old R).cell 2;have z0:=Q.bk.cell 0;have zf:=Q.bk.frozen 0;have KE:=zH (zA Q.bk R);obtain⟨fm,G⟩:∃z:Nat,(if t.many then 2 else 1)=z:=⟨_,rfl⟩
       have cd:=zH G;obtain⟨mb,Z⟩:=zN t.many
       rw[Z]at y2 G;have QW:=Q.bk.lt;clear Q Z n1 n2 O yV R y1 y6 e1;go_upto_if 65 with fail
       go_cut[] (λwx=>Hid (Below L L wx/\Bk wx M 69 #[.int .i64 (fm:Nat),t.type,.slice Tq Y Tt,.slice ak nc ag]/\Nd d (λq=>L.heap.size<=q/\q≠M) t.gs (.slice Tq Y Tt) wx/\Nd d (λq=>L.heap.size<=q/\q≠M) D.cs (.slice ak nc ag) wx))
       case first=>
        cases mb
        ·have n:fm=1:=by rw[<-G];rfl
         subst n;go_wp2_with fail
         go_meet
         exact zH ⟨KE.2,KE.1,X.1,X.2⟩
        have n:fm=2:=by rw[<-G];rfl
        subst n;go_wp2_with fail
        go_meet
        exact zH ⟨KE.2.setCell b0 _,KE.1.put 0 _,X.1.keep (dB.set λb hb=>⟨hb,hb.2⟩),X.2.keep (dB.set λb hb=>⟨hb,hb.2⟩)⟩
       case rest=>
       have XH:=zH hcut.out;obtain⟨W7,rfl⟩:∃z:World,z=wc:=⟨_,rfl⟩
       clear z0 zf y2 G hcut KE X;have ce:=XH.1.size;obtain⟨NX,R⟩:=zN (DF bs D.cs (P.drop (q+1)))
       have EF:=zH R;go_upto_if 71 with fail
       go_cut[] (λwx=>∃(A:Option Addr) (c:Nat),Hid (Below L L wx/\Bk wx M 69 #[.int .i64 (fm:Nat),t.type,.slice Tq Y Tt,.slice A NX.length c]/\Nd d (λq=>L.heap.size<=q/\q≠M) t.gs (.slice Tq Y Tt) wx/\Nd d (λq=>L.heap.size<=q/\q≠M) NX (.slice A NX.length c) wx))
       case first=>
        by_cases a8:q+1<np
        ·have af:(q:Int)+1<(np:Int):=by omega
         have X:q+1<P.length:=by rw[HP.2.2.2];exact a8
         have G:q+1<(ints P).length:=by rw[HP.2.2.1];exact a8
         have a0:Below wk wk W7:=a6.2.2.2.trans (XH.1.mono (by omega));have a3:Below K K W7:=a4.2.trans (a0.mono a4.2.size);obtain⟨bb,b3,aw,OA,_,_,O,We⟩:=((b4.keep (dB.gV (S:=λb=>V3.heap.size<=b) hQ.1 λb hb=>by omega)).old a0).elem G;injection OA with OA
         injection OA with e1 e2
         subst e1 e2;obtain rfl:=O;have Ib:=We 0 _ rfl;rw[Ls G,zLe,Nat.add_zero]at Ib;have av:=HP.2.1 _ (zFe X);obtain⟨y,hy⟩:=zN (P[q+1])
         rw[hy]at Ib av;have ad:y<bs.length:=by omega
         have cc:(y:Int)<(bs.length:Int):=by omega
         have O:NX=(bs[y]).lv:=by rw[<-R,Om bs D.cs X,hy,uO ad]
         obtain⟨b8,o8,bx,Z,_,c8,a2,Q⟩:=((aa.keep (dB.gV hJ.2.1 λb hb=>by omega)).old a3).elem ad;injection Z with Z
         injection Z with e1 e2
         subst e1 e2;have al:W7.cell? ⟨w.heap.size,2,none⟩=some (.slice (some ⟨b,o,none⟩) bs.length cb):=(c1.old a0).cell 2;obtain⟨u4,u5,u6,u7,rfl,_,j5,_,_⟩:=a2;obtain⟨A5,c5,rfl⟩:=j5.form;rw[<-O]at j5;have x5:=Q 5 _ rfl;rw[<-O]at x5;have an:=zH j5;clear We Q j5 O R hy;go_upto_region 18 with fail
         refine wx (λk=>false) [.is (.pointer (some ⟨w.heap.size,2,none⟩)),.is (.slice (some ⟨b,o,none⟩) bs.length cb),.is (.slice (some ⟨pg,po,none⟩) np cf),.is (.int .i64 (q:Nat)),.is (.int .i64 ((q+1:Nat):Int)),.is (.pointer (some ⟨pg,po+(q+1),none⟩)),.is (.int .i64 (y:Nat))] [4,5] (by kernel_rfl) (by kernel_rfl) (by kernel_rfl)
          (λC=>.c (px C rfl (λ_ _=>rfl)) <| .c (px C rfl (λ_ h=>bH (ld36 (bc h al)))) <| .c (px C rfl (λ_ _=>rfl)) <| .c (px C rfl (λ_ _=>rfl)) <|
           .c (pz [3] [] (by kernel_rfl) λqK qa wr s J l H=>?_) <| .c (pz [2,4] [] (by kernel_rfl) λqK qa wr s J l H=>?_) <| .c (px C rfl (λ_ h=>bH (lD (bc h Ib)))) .nil) ?_
         ·have a2:=aA l.1 rfl rfl;clear J l;go_simp;exact H _ _ zR (by show(_:Value)=_;first|rfl|(simp;done)|(simp;omega)|(rw[zHk _ ⟨by omega,by omega⟩];simp)|(simp;rw[zHk _ ⟨by omega,by omega⟩]))
         ·have Q:=aA l.1 rfl rfl;have O:=aA l.2.1 rfl rfl;clear J l;go_simp;exact H _ _ zR (by show(_:Value)=_;simp)
         intro qx w8 zy hR hS;clear hR hS;simp only[bJ,List.length,List.take,List.drop,zFd]
         go_frame
         have am:=bc zy x5;clear x5;go_wp2_with fail
         refine(rC (an.keep (.old zy))).mono ?_;rintro e w9 ⟨O,Q,rfl,h9,dM⟩;have Ze:Below W7 W7 w9:=zy.trans (dM.mono zy.size);have k9:=XH.2.1.old Ze;have f9:=k9.frozen 3;have z9:=k9.cell 3;have bi:=XH.2.1.lt;have c7:=zy.size;have a2:=zH (zA (XH.2.2.1.keep (.old Ze)) (zA h9 (XH.1.trans (Ze.mono ce))));clear h9 Ze dM am;go_wp2_with fail
         go_meet
         exact⟨O,Q,zH ⟨a2.2.2.setCell b0 _,k9.put 3 _,a2.1.keep (dB.set λb hb=>⟨hb,hb.2⟩),a2.2.1.keep (dB.set λb hb=>⟨⟨by omega,by show b≠M;omega⟩,by show b≠M;omega⟩)⟩⟩
        have af:¬(q:Int)+1<(np:Int):=by omega
        have hN:NX=D.cs:=by
         rw[<-R,zFq (by rw[HP.2.2.2];omega)];rfl
        go_wp2_with fail
        go_meet
        refine⟨ak,ag,zH ⟨XH.1,?_,XH.2.2.1,?_⟩⟩
        ·rw[hN,MQ.2];exact XH.2.1
        rw[hN,MQ.2];exact XH.2.2.2
       case rest=>
       obtain⟨An,cn,Ir⟩:=hcut;obtain⟨W8,rfl⟩:∃z:World,z=wc:=⟨_,rfl⟩
       have c7:=Ir.1.size;have Zf:Below wk wk W8:=a6.2.2.2.trans (Ir.1.mono (by omega));have a2:=zH (zA (hQ.2.1.old Zf) (zA (hQ.2.2.old Zf) (zA (a6.2.1.keep (.old Ir.1)) Zf)));have x0:W8.cell? ⟨B.heap.size,2,none⟩=some (.slice Ax xs.length cx):=a2.1.cell 2;have ad:W8.cell? ⟨wk.heap.size,4,none⟩=some (.slice A4 t.bars.length c4):=(ZI.old Ir.1).cell 4;obtain⟨Z,a3⟩:=zN ((Value.slice Ax xs.length cx).ownBlock)
       have aw:∀g,Z=some g->W4.heap.size<=g/\g<wk.heap.size:=λg h=>hQ.2.2.lt (a3.trans h)
       have al:∀b,b<W4.heap.size->some b≠Z:=λb hb e=>by have:=aw b e.symm;omega
       have SK:∀b,wk.heap.size<=b->some b≠Z:=λb hb e=>by have:=aw b e.symm;omega
       obtain⟨G,X⟩:=zN xs.length
       obtain⟨nb,a0⟩:=zN t.bars.length
       have a8:(gQ t.bars).length=nb:=by rw[<-a0];simp[gQ]
       have Sm:nb<=1048576:=by rw[<-a0,<-a6.1];exact(a5.get x).2.1
       have b3:G<=100000000:=by
        have n:=zGv List.length hX.out;have E:=wY (bs:=bs) (cl:=D.cs) P λy _=>(a5.get y).2.1
        rw[zFu,X]at n;rw[HP.2.2.2]at E;omega
       rw[X]at x0 a3 a2;rw[a0]at ad a2
       have ch:Hid (∀(w':World) (r2:Option Nat),W8.grownBy w' Z->(∀b,b<W8.heap.size->some b≠Z->some b≠r2)->KI d (λq=>W4.heap.size<=q/\some q≠r2) (qj t NX) [.int .i64 (fm:Nat),.int .i64 t.type,.slice Tq Y Tt,.slice An NX.length cn] w'):=zH λw' r2 U h=>
        have hk:dB (λq=>L.heap.size<=q/\q≠M) (λq=>W4.heap.size<=q/\some q≠r2) W8 w':=λb hb f=>⟨⟨by omega,h b f (SK b (by omega))⟩,zFs f U.size,U.block b f (SK b (by omega))⟩
        ⟨.slice Tq Y Tt,.slice An NX.length cn,by simp only[qj,cd.out],Ir.2.2.1.keep hk,Ir.2.2.2.keep hk⟩
       have AB:=zH (zA X a8);clear X a0 a8 R Zf;go_upto_region 19 with fail
       refine Go.Proofs.YtbjnhllkdilpfaaGreat.wk (λk=>k==7) 5 Z [.is (.pointer (some ⟨B.heap.size,2,none⟩)),.is (.slice Ax G cx),.is (.pointer (some ⟨wk.heap.size,4,none⟩)),.is (.slice A4 nb c4),
        sS (xg nb (Bd (λb=>W8.heap.size<=b) W8.heap.size 69 4 (KI d) (gQ t.bars)) λA c=>.slice A nb c),
        .st (λv w=>∃A c,v=.slice A (G+nb) c/\Bd (λb=>W4.heap.size<=b) W4.heap.size 69 4 (KI d) (xs++gQ t.bars) (.slice A (G+nb) c) w/\((Value.slice A (G+nb) c).ownBlock=Z\/∃g,(Value.slice A (G+nb) c).ownBlock=some g/\W8.heap.size<=g)) (λ_ _ _ hb ⟨A,c,n,E,h3⟩=>⟨A,c,n,E.old hb,h3⟩),
        .is (.agg #[.int .i64 (fm:Nat),t.type,.slice Tq Y Tt,.slice An NX.length cn]),.st (λv w=>∃g,v=.slice (some ⟨g,0,none⟩) 1 1/\W8.heap.size<=g/\Bk w g 69 #[.int .i64 (fm:Nat),t.type,.slice Tq Y Tt,.slice An NX.length cn]) (λ_ _ _ hb ⟨g,n,h0,E⟩=>⟨g,n,h0,E.old hb⟩)] [4,5,6,7] (by kernel_rfl) (by kernel_rfl) (by kernel_rfl)
        (λC=>.c (ay.x (rG _) C rfl (λ_ _=>rfl)) <| .c (ay.x (rG _) C rfl (λ_ h=>bH (pX (WR h (al _ (by omega)) x0)))) <| .c (ay.x (rG _) C rfl (λ_ _=>rfl)) <| .c (ay.x (rG _) C rfl (λ_ h=>bH (XQ (WR h (SK _ zL) ad)))) <|
         .c (ay.z (rG _) [3] [] (by kernel_rfl) λqK qa wr s J l H=>?_) <| .c (ay.gk [1,4] [] (by kernel_rfl) λqK qa wr s J l H=>?_) <| .c (ay.a (rG _) [] [13] (by kernel_rfl) λqK qa wr hG J l H=>?_) <| .c (ay.kept (rG _) [6] [] (by kernel_rfl) λqK qa wr hG J l H=>?_) .nil) ?_
       ·have av:=aA l.1 rfl rfl;clear J l;go_simp
        go_at_call 31
        refine(Z7 (a2.2.2.1.keep (dB.old s))).mono ?_;rintro e w2 ⟨A,c,rfl,n,E⟩;rw[AB.2]at n⊢;exact H _ _ E ⟨A,c,rfl,n.wide (λb hb=>zFi s.size hb) s.size⟩
       ·have an:=aA l.1 rfl rfl;obtain⟨u88,am,A,c,rfl,n⟩:=l.2.1;have Y5:=s.size;refine Zd jU.1 (.tmp 85) (.tmp 88) rfl (aB an) (a2.2.1.old s) (aB am) n.r (λb hb f=>⟨by omega,by rw[a3];exact SK b (by omega)⟩) (by rw[AB.1,AB.2];omega) (by omega) ?_;intro A' c' w' h3 U hw;rw[AB.1,AB.2]at h3 hw⊢;rw[a3]at U hw;refine H _ _ ((below_grown s Z).trans U) U.size (λj hj u hu=>?_) ⟨A',c',rfl,h3,hw.imp id λe=>⟨_,e,Y5⟩⟩;obtain rfl:j=7:=by simpa using hj
        obtain⟨g,R,a8,a0⟩:=hu;exact⟨g,R,a8,a0.grown U (SK g (by omega))⟩
       ·exact jw jU (.tmp 13) rfl (aB (J.1.trans rfl)) [.int .i64 (fm:Nat),.int .i64 t.type,.slice Tq Y Tt,.slice An NX.length cn] rfl (λi u hu=>by rw[zFr];refine WR hG (SK M (by omega)) ?_;rw[Ir.2.1.cell i];simpa using hu) (H _ zR)
       ·obtain⟨b7,l⟩:=l;have af:=QG l.1 rfl rfl;exact pI jU (.tmp 90) rfl [.int .i64 (fm:Nat),.int .i64 t.type,.slice Tq Y Tt,.slice An NX.length cn] (aB af) rfl (H _ _ (ba _ _) ⟨_,rfl,hG.size,Bk.new _ _ _⟩)
       intro qx W9 hG hR;obtain⟨O,Q,r5,h5,o5⟩:=hR 5 rfl rfl;obtain⟨g7,R,Zp,k7⟩:=hR 7 rfl rfl;clear hR;simp only[bJ,List.length,List.take,List.drop,zFd]
       go_frame
       generalize qx 7=z7 at R⊢;generalize qx 5=z5 at r5⊢;subst R r5;have cr:=hG.size
       have H9:=zH (zA h5 (zA (ch.out W9 (Value.slice O (G+nb) Q).ownBlock hG (λb hb c8 e=>by
        rcases o5 with h|⟨g,h,U⟩
        ·exact c8 (e.trans h)
        rw[h]at e;injection e with e;omega)) (a2.1.grown hG (al _ (by omega)))))
       have R:∀g,(Value.slice O (G+nb) Q).ownBlock=some g->W4.heap.size<=g:=λg h=>(h5.lt h).1
       have LZ:=zH (zA R k7);clear h5 R o5 k7 x0 ad;go_wp2_with (at_builtin;refine bu jU rfl _ _ rfl rfl H9.1 rfl [.int .i64 (fm:Nat),.int .i64 t.type,.slice Tq Y Tt,.slice An NX.length cn] LZ.2 (qj t NX) H9.2.1 (by rw[zFu,AB.1,AB.2];omega) (by omega) ?_;intro ad af Yw a8 YY DK YZ;have a0:=(H9.2.2).grown DK (λe=>by have:=LZ.1 _ e.symm;omega);have bx:=a0.cell 2;have cy:=a0.frozen 2)
       have Ld:Below W4.heap.size wk Yw:=(((a2.2.2.2).mono bo).grown hG (by omega) (λg U=>(aw g U).1)).grown DK (by omega) (λg U=>LZ.1 g U);have N:(xs++gQ t.bars++[qj t NX]).length=xs.length+(gQ t.bars).length+1:=by simp;omega
       rw[zFu]at a8;refine⟨⟨q+1,xs++gQ t.bars++[qj t NX],ad,af,by omega,by go_num,zH ?_,zH ⟨eu (dD hQ.1 Ld),?_,?_⟩⟩,by simp[intOf];omega⟩
       ·have:=hX.out;rw[KQ bs D.cs bm,HX.out,a6.1,EF.out]at this;rw[<-this];simp[zJa]
       ·rw[N];exact a0.put 2 _
       rw[N];exact a8.set (p:=⟨B.heap.size,2,none⟩) _ (λb hb=>by show b≠B.heap.size;omega) (by show B.heap.size<W4.heap.size;omega)
      obtain rfl:q=np:=by omega
      have R:xs=jV bs D.cs P:=by
       have:=hX.out;rw[zFq (by rw[HP.2.2.2];exact zFv _)]at this
       simpa[jV]using this
      subst R;obtain⟨G,X⟩:=zN ((jV bs D.cs P).length)
      have b3:G<=100000000:=by
       have E:=wY (bs:=bs) (cl:=D.cs) P λy _=>(a5.get y).2.1
       rw[HP.2.2.2,X]at E;omega
      rw[X]at hQ;have kE:Bk wk K.heap.size 64 #[.int .i64 (kL:Nat),.slice Ag D.cs.length cg,.slice Au D.bars.length cu]:=jM.2.2.1.old DZ;have ci:D.bars.length<=1048576:=(a5.get k).2.2 D (by rw[a9.1,<-NJ.out];exact zFe ab);have hU:=jM.2.1.keep (.old DZ);obtain⟨R,an⟩:=zN D.bars.length
      have am:(gQ D.bars).length=R:=by rw[<-an];simp[gQ]
      rw[an]at kE ci hU;have HU:=zH hU;have XD:=zH (zA am X);have y2:wk.cell? ⟨K.heap.size,2,none⟩=some (.slice Au R cu):=kE.cell 2;have x0:wk.cell? ⟨B.heap.size,2,none⟩=some (.slice Ax G cx):=hQ.2.1.cell 2;have a4:=zH (zA DZ WS);clear an am X kE hU DZ WS;go_upto_region 21 with fail
      refine wx (λk=>false) [.is (.pointer (some ⟨B.heap.size,2,none⟩)),.is (.slice Ax G cx),.is (.pointer (some ⟨K.heap.size,2,none⟩)),.is (.slice Au R cu),
       sS (xg R (Bd (λb=>wk.heap.size<=b) wk.heap.size 69 4 (KI d) (gQ D.bars)) λA c=>.slice A R c)] [4] (by kernel_rfl) (by kernel_rfl) (by kernel_rfl)
       (λC=>.c (px C rfl (λ_ _=>rfl)) <| .c (px C rfl (λ_ h=>bH (pX (bc h x0)))) <| .c (px C rfl (λ_ _=>rfl)) <| .c (px C rfl (λ_ h=>bH (XQ (bc h y2)))) <|
        .c (pz [3] [] (by kernel_rfl) λqK qa wr s J l H=>?_) .nil) ?_
      ·have am:=aA l.1 rfl rfl;clear J l;go_simp
       go_at_call 31
       refine(Z7 (HU.keep (dB.old s))).mono ?_;rintro e w2 ⟨A,c,rfl,n,E⟩;rw[XD.1]at n⊢;exact H _ _ E ⟨A,c,rfl,n.wide (λb hb=>zFi s.size hb) s.size⟩
      intro qx w5 Ew hR hS;obtain⟨A5,c5,l,h5⟩:=hR 4 rfl rfl;clear hR hS;simp only[bJ,List.length,List.take,List.drop,zFd]
      go_frame
      generalize qx 4=z4 at l⊢;subst l;have cc:=Ew.size;have l:=zH (zA h5.r (zA (hQ.2.2.old Ew) (zA (λb (hb:(Value.slice Ax G cx).ownBlock=some b)=>(hQ.2.2.lt hb)) (hQ.2.1.old Ew))));clear h5 x0 y2;go_upto_region 22 with(at_builtin;refine oO jU.1 rfl _ _ rfl rfl l.2.1 rfl l.1 (λb hb f=>⟨by omega,λe=>by have:=l.2.2.1 b e.symm;omega⟩) (by rw[XD.1,XD.2];omega) (by omega) ?_;intro O Q w9 h9 lJ fV;have ZE:=l.2.2.2.grown fV (λe=>by have:=l.2.2.1 _ e.symm;omega);have yb:=ZE.cell 2;have fb:=ZE.frozen 2)
      have A:Below W4.heap.size wk w9:=lJ _ _ zL (by omega) (Ew.mono bo);have an:Below K K w9:=a4.2.trans (A.mono (by omega));have D5:=an.setCell (p:=⟨B.heap.size,2,none⟩) (by show K.heap.size<=B.heap.size;omega) (.slice O (G+R) Q);have am:=ZE.put 2 (.slice O (G+R) Q);rw[XD.1,XD.2]at h9⊢;have hF:=h9.set (p:=⟨B.heap.size,2,none⟩) (.slice O (G+R) Q) (λb hb=>by show b≠B.heap.size;omega) (by show B.heap.size<W4.heap.size;omega)
      have HM:Hid (I.grownBy (w9.setCell ⟨B.heap.size,2,none⟩ (.slice O (G+R) Q)) (some g3)/\Bk (w9.setCell ⟨B.heap.size,2,none⟩ (.slice O (G+R) Q)) g3 29 #[ax,.slice A3 ks.length c3,v]/\Bd (λq=>I.heap.size<=q) I.heap.size 67 3 (xh d) (mY bs k j) v (w9.setCell ⟨B.heap.size,2,none⟩ (.slice O (G+R) Q))/\Bk (w9.setCell ⟨B.heap.size,2,none⟩ (.slice O (G+R) Q)) wo.heap.size 62 #[F.parent,F.type,.bool F.many,F.window,v4,v5,v6,.slice (some ⟨b2,o2,none⟩) m cp]/\Bk (w9.setCell ⟨B.heap.size,2,none⟩ (.slice O (G+R) Q)) B.heap.size 67 #[.int .i64 (kL:Nat),F.window,.slice O (G+R) Q]/\Below K K (w9.setCell ⟨B.heap.size,2,none⟩ (.slice O (G+R) Q))):=zH
       ⟨dD hJ.2.1 (D5.mono (by omega)),hJ.2.2.1.old D5,hJ.2.2.2.1.old D5,hJ.2.2.2.2.old D5,am,D5⟩
      have HF:=zH hF;obtain⟨H,J,hv,_⟩:=hJ.2.2.2.1.form
      have cw:(mY bs k j).length<=100000000:=by
       have n:=Qn (bs:=bs) (λi=>(a5.get i).1) k;have E:=(a5.get k).1;have h3:k<32:=zFs f wZ.2.1;simp[mY];omega
      obtain⟨nL,av⟩:=zN ((mY bs k j).length)
      rw[av]at cw hv;subst hv;have d2:=D5.size;have bb:∀q,(Value.slice H nL J).ownBlock=some q->I.heap.size<=q/\q<K.heap.size:=λq hq=>hJ.2.2.2.1.lt hq
      clear h9 lJ fV ZE yb fb A an D5 am hF l hQ hX;generalize w9.setCell ⟨B.heap.size,2,none⟩ (.slice O (G+R) Q)=bi at *;have d1:=HM.2.2.2.2.1.lt;have z2:=HM.2.1.cell 2;have A:=zH (zA av bb);clear av bb;obtain⟨BT,am⟩:∃z:dL,(⟨kL,F.window,jV bs D.cs P++gQ D.bars⟩:dL)=z:=⟨_,rfl⟩
      have an:∀o,xh d (λq=>(I.heap.size<=q)/\some q≠(Value.slice H nL J).ownBlock) BT [.int .i64 (kL:Nat),.int .i64 F.window,.slice O (G+R) Q] (bi.alloc o):=λo=>by
       rw[<-am];exact⟨_,rfl,(HF.Kq (S:=λq=>(I.heap.size<=q)/\some q≠(Value.slice H nL J).ownBlock) (λb hb _=>⟨by omega,λe=>by have:=(A.2 b e.symm).2;omega⟩) (λb hb _=>⟨by omega,λe=>by have:=A.2 b e.symm;omega⟩) (by rw[zFu,XD.1,XD.2];omega)).keep (.old (ba _ _))⟩
      have KU:=zH (zA am an);clear am an
      go_wp2_with (first|(refine aj gW rfl _ rfl rfl [.int .i64 (kL:Nat),.int .i64 F.window,.slice O (G+R) Q] rfl (λi v hv=>by rw[zFr,HM.2.2.2.2.1.cell i];simpa using hv) ?_)|(refine dC gW rfl _ rfl [.int .i64 (kL:Nat),.int .i64 F.window,.slice O (G+R) Q] rfl rfl ?_)|
       (at_builtin;refine bu gW rfl _ _ rfl rfl (HM.2.2.1.old (ba _ _)) rfl [.int .i64 (kL:Nat),.int .i64 F.window,.slice O (G+R) Q] (Bk.new _ _ _) BT (KU.2 _) (by rw[A.1];omega) (by simp;omega) ?_;intro ad af Yw a8 YY DK YZ;rw[A.1]at a8 YZ⊢;have a0:=(HM.2.1.alloc _).grown DK (HM.2.2.1.ne HM.2.1 (by decide));have bx:=a0.cell 2;have cy:=a0.frozen 2))
      have Ld:Below I.heap.size bi Yw:=YY _ _ zL (by simp;omega) ((ba _ _).mono (by omega));have kS:=((HM.2.2.2.1.alloc _).grown DK (HM.2.2.1.ne HM.2.2.2.1 (by decide))).far (p:=⟨g3,2,none⟩) (by show wo.heap.size≠g3;omega) (.slice ad (nL+1) af);have an:=a8.set (p:=⟨g3,2,none⟩) (.slice ad (nL+1) af) (λb hb=>by show b≠g3;omega) ct;have bb:=DK.size;have cr:=HM.2.2.2.2.2.size
      have am:mY bs k (j+1)=mY bs k j++[BT]:=by
       have hS:iD bs k=F:=a9.1;have av:j<(iD bs k).ends.length:=by rw[hS];exact ab
       have he:(iD bs k).ends[j]=D:=by
        have:=NJ.out;simp only[hS];exact this
       have a1:KR bs k D=BT:=by
        rw[<-KU.1];unfold KR;rw[hS,HP.1,Pj.out];rfl
       rw[Ot bs k av,he,a1]
      exact⟨⟨j+1,_,bj,by go_num,zH ⟨by simp at bb⊢;omega,eu (dD HM.1 Ld),a0.put 2 _,by rw[am];exact an,kS⟩⟩,by simp[intOf];omega⟩
    obtain rfl:j=m:=by omega
    go_wp2_with fail
    have t:Hid (I.grownBy K (some g3)/\Bk K g3 29 #[ax,.slice A3 ks.length c3,v]/\Bd (λq=>I.heap.size<=q) I.heap.size 67 3 (xh d) (Oo bs (k+1)) v K):=zH ⟨hJ.2.1,hJ.2.2.1,by
     have n:=hJ.2.2.2.1;have E:=FZ bs k;rw[a9.1,HM.out]at E;rw[E]at n
     exact n⟩
    refine⟨?_,by simp[intOf];omega⟩
    repeat apply Exists.intro
    refine⟨?_,rfl⟩;exact⟨k+1,v,f,by go_num,t⟩
  obtain rfl:k=bs.length:=by omega
  obtain⟨H,J,rfl,_⟩:=W.2.2.form;have A:(Oo bs bs.length).length<=1000000000000:=by have:=be.1;omega
  have B:=zH (zE5 W.2.2 be.out);have z2:=W.2.1.cell 2;go_wp2_with fail
  refine B.mono ?_;rintro e w5 ⟨rfl,h5,t⟩;have k3:=W.2.1.grown t (W.2.2.ne W.2.1 (by decide));have n:∀q,(Value.slice H (Oo bs bs.length).length J).ownBlock=some q->I.heap.size<=q:=λq hq=>(W.2.2.lt hq).1
  have k2:=(oK.2.1.grown W.1 (by simp;omega)).grown t (λe=>by have:=n _ e.symm;omega);have cc:=t.size;have l:=zH (zA k3 (zA h5 (zA n t)));clear k3 h5 n t B z2
  go_wp2_with (first|(refine aV aP eF rfl (.tmp 3) rfl rfl [.int .i64 ax,.slice A3 ks.length c3,.slice H (Oo bs bs.length).length J] rfl (λi v hv=>by rw[zFr,l.1.cell i];simpa using hv) ?_)|
   (refine ae aP rfl _ _ rfl rfl [.int .i64 ax,.slice A3 ks.length c3,.slice H (Oo bs bs.length).length J] rfl k2 rfl rfl rfl ?_;intro w9 n;have y0:=n.bk.cell 0;have y1:=n.bk.cell 1;have y2:=n.bk.cell 2))
  refine zFg (v:=.agg #[ax,.slice A3 ks.length c3,.slice H (Oo bs bs.length).length J]) (by simp[results,results14,go_sem,y0,y1,y2]) rfl ?_;have br:=b1.size;refine⟨[_,_,_],rfl,⟨_,_,rfl,?_,?_⟩,n.below _ _ ((b1.grown W.1 b1.size λk hk=>by injection hk with hk;omega).grown l.2.2.2 (by omega) λk hk=>by have:=l.2.2.1 k hk;omega) (by omega)⟩
  ·refine(oK.2.2.lo.keep (S':=λq=>w0.heap.size<=q) λb hb f=>⟨hb.1.1,?_,?_⟩).keep (S':=λq=>w.heap.size<=q) λb hb f=>⟨by omega,by rw[n.size];exact f,n.other b (by omega)⟩
   ·have:=W.1.size;omega
   exact(l.2.2.2.block b (by have:=W.1.size;omega) (λe=>by have:=l.2.2.1 b e.symm;omega)).trans (W.1.block b f hb.1.2)
  exact((l.2.1.Kq (S:=λq=>I.heap.size<=q) (λb hb _=>hb) (λb hb _=>hb) A).keep (dB.fE n λb hb=>by omega)).keep λb hb f=>⟨by omega,f,rfl⟩
end
end Go.Proofs.YtbjnhllkdilpfaaGreat
