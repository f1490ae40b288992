/- Part 45 of the proof. No conditions. -/
import Derived.Test.YtbjnhllkdilpfaaGreatZf30
set_option linter.unusedVariables false
set_option linter.unusedSimpArgs false
set_option maxRecDepth 100000
set_option maxHeartbeats 16000000
namespace Go.Proofs.YtbjnhllkdilpfaaGreat
open Go.RowKit _root_.Go.Proofs.Tryz
theorem Bd.kept {α:Type} {n:Nat} {P:(Nat->Prop)->α->List Value->World->Prop} [CK n P] {S S':Nat->Prop} {base t:Nat} {xs:List α} {v:Value} {w w':World} {c:Option Nat} (h:Bd S base t n P xs v w) (d:w.grownBy w' c) (e:v.ownBlock=none\/v.ownBlock≠c) (f:∀b,S b->some b≠v.ownBlock->b<w.heap.size->S' b/\some b≠c):Bd S' base t n P xs v w':=by
 obtain⟨ps,g,k,i⟩:=h;exact⟨ps,g,k.kept d e,λp j=>CK.keep (λb hb a=>⟨⟨(f b hb.1 hb.2 a).1,hb.2⟩,zFs a d.size,d.block b a (f b hb.1 hb.2 a).2⟩) (i p j)⟩
theorem Bd.apart {α β:Type} {n m:Nat} {P:(Nat->Prop)->α->List Value->World->Prop} {P':(Nat->Prop)->β->List Value->World->Prop} [CK n P] [CK m P'] {S S':Nat->Prop} {base a t c:Nat} {xs:List α} {d:List β} {v v':Value} {w:World} (h:Bd S base t n P xs v w) (f:Bd S' a c m P' d v' w) (b:t≠c):v.ownBlock=none\/v.ownBlock≠v'.ownBlock:=by
 obtain⟨ps,i,g,k⟩:=h;obtain⟨j,l,e,o⟩:=f;exact own_ne g e b
theorem F5 {β:Type} {n:Nat} (f:β->List Value):∀(l:List β) (d:∀a∈l,(f a).length=n) (i:Nat) (h:i<l.length) (z:β) (j:Nat) (u:Value),f z=(f l[i]).set j u->j<n->(l.set i z).flatMap f=(l.flatMap f).set (i*n+j) u
 |a::l,d,0,_,z,j,u,c,g=>by
  have e:=d a (by simp);have c:f z=(f a).set j u:=c;rw[zFw,zGx,zGx,c,zHm,zFr,List.set_append_left _ _ (by omega)]
 |a::l,d,i+1,h,z,j,u,c,g=>by
  have e:=d a (by simp);have k:=F5 f l (λb hb=>d b (by simp[hb])) i (by simpa using h) z j u (by simpa using c) g;rw[zFx,zGx,zGx,k,List.set_append_right _ _ (by rw[e,zJg];omega),e,show(i+1)*n+j-n=i*n+j by rw[zJg];omega]
theorem Bd.put1 {α:Type} {n:Nat} {P:(Nat->Prop)->α->List Value->World->Prop} [CK n P] {S:Nat->Prop} {base t:Nat} {xs:List α} {g a c:Nat} {w:World} (h:Bd S base t n P xs (.slice (some ⟨g,0,none⟩) a c) w) {k:Nat} (l:k<xs.length) {j:Nat} (H:j<n) (u:Value) (Q:u.oneCell'=true):
  ∃cs,P (λq=>S q/\q≠g) xs[k] cs w/\(∀i v,cs[i]? =some v->w.cell? ⟨g,k*n+i,none⟩=some v)/\∀e,P (λq=>S q/\q≠g) e (cs.set j u) w->Bd S base t n P (xs.set k e) (.slice (some ⟨g,0,none⟩) a c) (w.setCell ⟨g,k*n+j,none⟩ u):=by
 obtain⟨ps,rfl,G,E⟩:=h;rw[zF5]at l;have z:∀p∈ps,(Prod.snd p).length=n:=λp d=>CK.len (E p d)
 have J:=E _ (zFe l);have D:∀b,(S b/\some b≠(Value.slice (some ⟨g,0,none⟩) a c).ownBlock)<->(S b/\b≠g):=λb=>⟨λh=>⟨h.1,λe=>h.2 (by rw[e];rfl)⟩,λh=>⟨h.1,λe=>h.2 (by injection e)⟩⟩
 refine⟨ps[k].2,CK.keep (λb hb f=>⟨(D b).1 hb,f,rfl⟩) (by simpa using J),λi v y=>?_,λe M=>?_⟩
 ·have L:i<n:=by rw[<-z _ (zFe l)];exact(zFc.1 y).1
  have:=G.cells (g:=g) rfl (k*n+i) v (by rw[jd Prod.snd ps z k i l L];exact y)
  rwa [yw]at this
 have R:(ps[k].2.set j u).length=n:=by rw[zH0];exact z _ (zFe l)
 have o:=F5 Prod.snd ps z k l (e,ps[k].2.set j u) j u rfl H;have r:dB (λq=>S q/\some q≠(Value.slice (some ⟨g,0,none⟩) a c).ownBlock) (λq=>S q/\some q≠(Value.slice (some ⟨g,0,none⟩) a c).ownBlock) w (w.setCell ⟨g,k*n+j,none⟩ u):=dB.set λb hb=>⟨hb,((D b).1 hb).2⟩
 refine⟨ps.set k (e,ps[k].2.set j u),by rw[List.map_set],?_,λq F=>?_⟩
 ·obtain⟨d,I|⟨O,N,m,y,hb,K,x,B,A,s⟩⟩:=G
  ·have:=I.2;rw[zF5]at this;omega
  injection y with e1 e2 e3
  injection e1 with e1
  injection e1 with e1
  subst e1 e3;have C:Bk w g t m:=K;rw[zF5]at x s d e2;subst e2;refine⟨by rw[o,zH0,zH0,zF5];exact d,.inr ⟨g,c,m.setIfInBounds (k*n+j) u,by rw[zH0,zF5],hb,C.put _ u,by rw[zH0,zF5];exact x,B,by simpa using A,?_⟩⟩;rw[o,zH0,zF5,<-s];simp only[zJm];rw[List.take_set]
 rcases List.mem_or_eq_of_mem_set F with F|rfl
 ·exact CK.keep r (E q F)
 exact CK.keep r (CK.keep (λb hb f=>⟨(D b).2 hb,f,rfl⟩) M)
theorem Bd.KT {α:Type} {n:Nat} {P:(Nat->Prop)->α->List Value->World->Prop} [CK n P] {S S2:Nat->Prop} {base t:Nat} {xs:List α} {v:Value} {w:World} (h:Bd S base t n P xs v w) (a:∀b,S b->S2 b):Bd S2 base t n P xs v w:=h.wide a zL
theorem VT (i m d:Int) (b:Bool) (h c f:Option Addr) (l g a j e k:Nat) (w:World):(Instr.build 62 #[(0,.int .i64 i),(1,.int .i64 m),(2,.bool b),(3,.int .i64 d),(4,.slice h l j),(5,.slice c g e),(6,.slice f a k)]).run prog w=.ok (.agg #[i,m,.bool b,d,.slice h l j,.slice c g e,.slice f a k,""]) w:=by kernel_rfl
theorem YS {w:World} {o:Oper} {a:Act} {K:Act->World->Prop} {Q:Exit->Act->World->Prop} {e l d:Int} {b:Bool} {q s g:Option Addr} {r p m f c i:Nat} (p0 p1 p2 j n k t:Operand) (z:o.op=.build 62 #[(0,p0),(1,p1),(2,p2),(3,j),(4,n),(5,k),(6,t)])
  (u:a.eval p0=.int .i64 e) (v:a.eval p1=.int .i64 l) (B:a.eval p2=.bool b) (x:a.eval j=.int .i64 d) (C:a.eval n=.slice q r f) (A:a.eval k=.slice s p c) (y:a.eval t=.slice g m i)
  (h:K (a.put o.dst (.agg #[e,l,.bool b,d,.slice q r f,.slice s p c,.slice g m i,""])) w):o.wp prog a w K Q:=by
 unfold Oper.wp execOp;simp only[z,zHp,zGq,zHc,u,v,B,x,C,A,y,zH5,VT,Result.andThen_ok,Sem.run_pure];exact h
def StQ (d:Nat) (S:Nat->Prop) (s:fQ) (cs:List Value) (w:World):Prop:=Z5 d S s cs w/\(s.ends=[]->cs[7]? =some (.slice none 0 0))
instance (d:Nat):CK 8 (StQ d) where
 pos:=by decide
 keep:=λhk h=>⟨CK.keep hk h.1,h.2⟩
 len:=λh=>CK.len h.1
 one:=λh=>CK.one h.1
theorem Bd.bk {α:Type} {n:Nat} {P:(Nat->Prop)->α->List Value->World->Prop} [CK n P] {S:Nat->Prop} {base t:Nat} {xs:List α} {g b c:Nat} {w:World} (h:Bd S base t n P xs (.slice (some ⟨g,0,none⟩) b c) w):∃a,Bk w g t a:=by
 obtain⟨ps,rfl,i,k⟩:=h;rcases i.2 with⟨d,l⟩|⟨j,e,a,d,hb,f,_⟩
 ·cases d
 injection d with e1
 injection e1 with e1
 injection e1 with e1
 subst e1;exact⟨a,f⟩
theorem DI {l:List fQ} {i:Nat} (h:i<l.length) (f:fQ->fQ):l.modify i f=l.set i (f l[i]):=by
 apply zJ1
 intro j;rw[zHi,zKh]
 by_cases a:i=j
 ·subst a;simp[h]
 simp[a]
structure BdK (d:Nat) (W0 W1:World) (g4 gb:Nat) (ax:Int) (kv:Value) (cb:List Value) (x:Ou) (A A2:Option Addr) (c c2:Nat) (lv:Value) (w:World):Prop where
 sz:W1.heap.size<=w.heap.size
 gr:W0.grownBy w (some g4)
 k4:Bk w g4 38 #[ax,kv,.slice A x.bD.length c]
 kb:Bk w gb 67 cb.toArray
 bD:Bd (λq=>W0.heap.size<=q/\some q≠(Value.slice A2 x.bars.length c2).ownBlock) W0.heap.size 62 8 (StQ d) x.bD (.slice A x.bD.length c) w
 bar:Bd (λq=>W0.heap.size<=q/\some q≠(Value.slice A x.bD.length c).ownBlock) W0.heap.size 72 2 (zn d) x.bars (.slice A2 x.bars.length c2) w
 lvs:Nd d (λq=>W0.heap.size<=q/\some q≠(Value.slice A x.bD.length c).ownBlock/\some q≠(Value.slice A2 x.bars.length c2).ownBlock) x.lv lv w
 emp:0<=x.parent->(iD x.bD x.parent.toNat).ends=[]
theorem BdK.old {d:Nat} {k W1:World} {f i:Nat} {ax:Int} {e:Value} {a:List Value} {x:Ou} {A j:Option Addr} {c b:Nat} {g:Value} {w w':World} (h:BdK d k W1 f i ax e a x A j c b g w) (hb:Below w w w'):BdK d k W1 f i ax e a x A j c b g w':=
 ⟨zFi h.sz hb.size,dD h.gr (hb.mono h.gr.size),h.k4.old hb,h.kb.old hb,h.bD.old hb,h.bar.old hb,h.lvs.keep (.old hb),h.emp⟩
section
set_option maxRecDepth 100000
set_option maxHeartbeats 16000000
theorem Ov {d:Nat} {S:Nat->Prop} {ax:Int} {ks:List Int} {bs:List dL} {cs:List Value} {w:World} (h:dO d S ax ks bs cs w):Calls prog 9 #[.agg cs.toArray] w λe w'=>∃a:List Value,e=.returned (.tuple #[.agg a.toArray,.int .i64 (gU ax ks bs).2])/\wO d (λq=>w.heap.size<=q) (gU ax ks bs).1.aS (gU ax ks bs).1.keys (gU ax ks bs).1.states a w'/\Below w w w':=by
 obtain⟨kv,bv,rfl,hk,hb⟩:=h;obtain⟨Ak,ck,rfl⟩:=hk.form;obtain⟨Ab,cb,a,aa,hb⟩:=hb;subst a;have n:=zH hk;have HR:=zH hb.lo;clear hk hb
 go_enter func9,ntmps9
 go_upto_region 1 with fail
 obtain⟨w0,a⟩:=zN ((w.alloc (.cells #[ax,.slice Ak ks.length ck,.slice Ab bs.length cb] 29)).alloc (.cells #[(),"",""] 38))
 have k1:Bk w0 w.heap.size 29 #[ax,.slice Ak ks.length ck,.slice Ab bs.length cb]:=a▸(Bk.new _ _ _).alloc _;have k2:Bk w0 (w.heap.size+1) 38 #[(),"",""]:=a▸Bk.newAt (by simp) _ _;have f:Below w w w0:=a▸bel2 w _ _;simp only[a];clear a;have x0:w0.cell? ⟨w.heap.size,0,none⟩=some (.int .i64 ax):=k1.cell 0;have D:w0.cell? ⟨w.heap.size,1,none⟩=some (.slice Ak ks.length ck):=k1.cell 1
 refine wx (λk=>k==6) [.is (.pointer (some ⟨w.heap.size,0,none⟩)),.is (.int .i64 ax),.is (.pointer (some ⟨w.heap.size,1,none⟩)),.is (.slice Ak ks.length ck),
  sS (xg ks.length (Bd (λ_=>False) w0.heap.size 3 1 gK ks) λA c=>.slice A ks.length c),sS (xg ks.length (Bd (λ_=>False) w0.heap.size 3 1 gK ks) λA c=>.agg #[ax,.slice A ks.length c,""]),
  .st (λv w=>∃g,v=.pointer (some ⟨g,0,none⟩)/\w0.heap.size<=g/\Bk w g 38 #[(),"",""]) (λ_ _ _ hb ⟨g,s,a,O⟩=>⟨g,s,a,O.old hb⟩)] [4,5,6] (by kernel_rfl) (by kernel_rfl) (by kernel_rfl)
  (λC=>.c (px C rfl (λ_ _=>rfl)) <| .c (px C rfl (λ_ h=>bH (lD (bc h x0)))) <| .c (px C rfl (λ_ _=>rfl)) <| .c (px C rfl (λ_ h=>bH (Gq (bc h D)))) <|
   .c (pz [3] [] (by kernel_rfl) λqK Z wr u M l y=>?_) <| .c (pz [1,4] [] (by kernel_rfl) λqK Z wr u M l y=>?_) <| .c (pf [] [] (by kernel_rfl) λqK Z wr u M l y=>?_) .nil) ?_
 ·exact xZ (.tmp 16) rfl (aB (aA l.1 rfl rfl)) ((n.keep (.old f)).keep (.old u)) λA c w' s O=>y _ _ O ⟨A,c,rfl,s.NU u.size⟩
 ·have m:=aA l.1 rfl rfl;obtain⟨u17,a,A,c,rfl,X⟩:=l.2.1;have a:Z.tmps[17]? =some (.slice A ks.length c):=a;clear M l;go_simp;exact y _ _ zR ⟨A,c,rfl,X⟩
 ·clear M l;go_simp;exact y _ _ (ba _ _) ⟨_,rfl,u.size,Bk.new _ _ _⟩ ⟨_,rfl,by simp,by simp⟩
 intro qx wr u hR hS;obtain⟨A3,c3,a,r⟩:=hR 5 rfl rfl;obtain⟨G,t,br,m⟩:=hR 6 rfl rfl;clear hR hS;simp only[bJ,List.length,List.take,List.drop,zFd]
 go_frame
 generalize qx 6=z6 at t⊢;generalize qx 5=z5 at a⊢;subst t a;go_upto_region 2 with(refine ae gZ rfl _ _ rfl rfl [.int .i64 ax,.slice A3 ks.length c3,.slice none 0 0] rfl m rfl rfl rfl ?_;intro t p0;go_frame)
 have al:=p0.size;have B:=u.size;have bp:=k2.lt;have z:=m.lt;have a:Below w.heap.size w t:=p0.below _ _ (f.trans (u.mono f.size)) (by omega);have oK:Hid (Bk t w.heap.size 29 #[ax,.slice Ak ks.length ck,.slice Ab bs.length cb]/\Bk t (w.heap.size+1) 38 #[(),"",""]/\Sl gK (λq=>w0.heap.size<=q/\some q≠some G) ks (.slice A3 ks.length c3) t):=zH ⟨p0.zJ (k1.old u) (by omega),p0.zJ (k2.old u) (by omega),?keys⟩
 case keys=>exact(r.Kq (S:=λq=>w0.heap.size<=q/\some q≠some G) (λb hb he=>⟨hb,λe=>r.ne m (by decide) (e.symm.trans he.symm)⟩) (λb h=>h.elim) n.le).keep (dB.fE p0 λb hb e=>hb.2 (zGv some e))
 have HG:=zH p0;have a1:=zH a;have bd:=zH (HR.old a);have c4:=f.size;have an:G<t.heap.size:=p0.bk.lt;have c7:w0.heap.size<=t.heap.size:=by omega
 clear p0 k1 k2 m u f a x0 D r al B n z;have y2:=oK.1.cell 2;obtain⟨R,hR⟩:=zN (mZ bs [])
 have aH:=zH hR;go_wp2_with fail
 go_loopw[22] (λi wr=>∃(k:Nat) (a:List fQ) (A:Option Addr) (c:Nat),k<=bs.length/\i=.int .i64 k/\a.length<=32/\Hid (mZ (bs.drop k) a=R)/\Hid (t.grownBy wr (some G)/\Bk wr G 38 #[ax,.slice A3 ks.length c3,.slice A a.length c]/\Bd (λq=>t.heap.size<=q) t.heap.size 62 8 (StQ d) a (.slice A a.length c) wr)) (λi _=>bs.length-(intOf i).toNat)
 case atStart=>exact⟨0,[],none,0,zFj _,rfl,by simp,aH,zH ⟨zF8 _ _,HG.bk,Bd.nil zL⟩⟩
 case round=>
  obtain⟨wo,rfl⟩:∃z:World,z=wr:=⟨_,rfl⟩
  obtain⟨k,rJ,A0,c0,hk,rfl,b4,ab,hI⟩:=hrel;have aw:=hI.1.size
  by_cases a:k<bs.length
  ·obtain⟨b,o,cs,hA,c5,hb,f,D⟩:=(bd.keep (dB.gV hI.1 λb hb=>by omega)).elem a;subst hA;have E:=CK.len f;go_upto_region 5 with(first|(refine aj gW rfl _ rfl rfl cs E D ?_)|(refine ae (aY gW.1) rfl _ _ rfl rfl cs rfl (Bk.new _ _ _) E rfl (CK.one f) ?_;intro V1 p1;go_frame))
   obtain⟨_,rfl,Ap,cp,rfl,a0,r⟩:=f;have Iz:Below wo wo V1:=p1.below _ _ (ba _ _) zL;have bm:wo.heap.size<V1.heap.size:=by rw[p1.size];simp
   obtain⟨n,f⟩:=zN (bs[k])
   rw[f]at a0 r p1;have b8:Hid (Rw (KI d) (λq=>S q/\q<w.heap.size) n.ps Ap V1):=zH (r.old Iz);have KU:=zH f;obtain⟨m,B⟩:=zN n.ps.length
   rw[B]at a0 p1;have HM:=zH B
   have Ox:Hid (BdK d t V1 G wo.heap.size ax (.slice A3 ks.length c3) [.int .i64 n.id,.int .i64 n.window,.slice Ap m cp] ⟨-1,[],[],rJ⟩ A0 none c0 0 (.slice none 0 0) V1):=zH
    ⟨zFv _,dD hI.1 (Iz.mono aw),hI.2.1.old Iz,p1.bk,(hI.2.2.old Iz).KT (λb hb=>⟨hb,by simp[Value.ownBlock]⟩),Bd.nil (by omega),Nd.nil _ _ _,λhp=>absurd hp (by simp)⟩
   have QK:=zH (dD hI.1 (Iz.mono aw));have x7:V1.cell? ⟨wo.heap.size,2,none⟩=some (.slice Ap m cp):=p1.bk.cell 2;clear r p1 D E f hI B;obtain⟨R2,a7⟩:=zN (iL n.window n.ps ⟨-1,[],[],rJ⟩)
   have ap:=zH a7;clear a7;go_wp2_with fail
   clear x7
   go_loopw[7,8,9,29] (λr bv f i wr=>∃(j:Nat) (x:Ou) (A J:Option Addr) (c K:Nat),j<=m/\i=.int .i64 j/\r=.int .i64 x.parent/\bv=.slice J x.bars.length K/\x.bD.length<=32/\x.bars.length<=j/\(-1<=x.parent/\x.parent<x.bD.length)/\Hid (iL n.window (n.ps.drop j) x=R2)/\Hid (BdK d t V1 G wo.heap.size ax (.slice A3 ks.length c3) [.int .i64 n.id,.int .i64 n.window,.slice Ap m cp] x A J c K f wr)) (λ_ _ _ i _=>m-(intOf i).toNat)
   case atStart=>exact⟨0,⟨-1,[],[],rJ⟩,A0,none,c0,0,zFj _,rfl,rfl,rfl,b4,zFv _,⟨by show(-1:Int)<= -1;omega,by show(-1:Int)<_;omega⟩,ap,Ox⟩
   case round=>
    clear Ox;obtain⟨H,rfl⟩:∃z:World,z=wr:=⟨_,rfl⟩
    obtain⟨j,x,A,J,c,K,hj,rfl,rfl,rfl,ag,bi,b6,hX,I⟩:=hrel;have bo:=I.sz
    by_cases ad:j<m
    ·obtain⟨Al,cl,rfl⟩:=I.lvs.form;have a5:j<n.ps.length:=by rw[HM.out];exact ad
     obtain⟨b2,o2,b3,r,_,c6,f,L⟩:=(b8.keep (dB.two QK.out I.gr λb hb=>⟨by omega,by omega⟩)).elem a5;subst r;have r:=CK.len f;go_upto_region 11 with(first|(refine aj jU rfl _ rfl rfl b3 r L ?_)|(refine ae (aY jU.1) rfl _ _ rfl rfl b3 rfl (Bk.new _ _ _) r rfl (CK.one f) ?_;intro Y p2;go_frame))
     obtain⟨gv,cv,rfl,hg,B⟩:=f;obtain⟨f,D⟩:=zN (n.ps[j])
     rw[D]at hg B p2;obtain⟨Ag,cg,rfl⟩:=hg.form;obtain⟨Ac,cc,rfl⟩:=B.form;have aq:Below H H Y:=p2.below _ _ (ba _ _) zL;have c1:H.heap.size<Y.heap.size:=by rw[p2.size];simp
     have HV:=zH (zA (hg.keep (.old aq)) (zA (B.keep (.old aq)) p2.bk));have P:=zH (I.old aq);have nN:=zH D;have am:∀g,(Value.slice A x.bD.length c).ownBlock=some g->t.heap.size<=g/\g<H.heap.size:=λg h=>I.bD.lt h
     have aa:∀g,(Value.slice J x.bars.length K).ownBlock=some g->t.heap.size<=g/\g<H.heap.size:=λg h=>I.bar.lt h
     obtain⟨F,N⟩:=zN f.gs.length
     rw[N]at HV;have MQ:=zH N;have y1:Y.cell? ⟨H.heap.size,1,none⟩=some (.int .i64 f.type):=HV.2.2.cell 1;have a4:Y.cell? ⟨H.heap.size,2,none⟩=some (.slice Ag F cg):=HV.2.2.cell 2;have y0:Y.cell? ⟨H.heap.size,0,none⟩=some (.int .i64 (f.form:Nat)):=HV.2.2.cell 0;clear D hg B p2 L r N
     by_cases hf:f.form=3
     ·rw[hf]at y0;go_upto_region 12 with fail
      refine wx (λk=>false) [.is (.slice J x.bars.length K),.is (.pointer (some ⟨H.heap.size,1,none⟩)),.is (.int .i64 f.type),.is (.pointer (some ⟨H.heap.size,2,none⟩)),.is (.slice Ag F cg),
       sS (xg F (Nd d (λq=>Y.heap.size<=q) f.gs) λA c=>.slice A F c),sS (xg F (Nd d (λq=>Y.heap.size<=q) f.gs) λA c=>.agg #[f.type,.slice A F c]),sS (ExB 72 F (Nd d (λq=>Y.heap.size<=q) f.gs) λA c=>#[f.type,.slice A F c])] [5,6,7] (by kernel_rfl) (by kernel_rfl) (by kernel_rfl)
       (λC=>.c (px C rfl (λ_ _=>rfl)) <| .c (px C rfl (λ_ _=>rfl)) <| .c (px C rfl (λ_ h=>bH (lD (bc h y1)))) <| .c (px C rfl (λ_ _=>rfl)) <| .c (px C rfl (λ_ h=>bH (jD (bc h a4)))) <|
        .c (pz [4] [] (by kernel_rfl) λqK Z wr u M l y=>?_) <| .c (pz [2,5] [] (by kernel_rfl) λqK Z wr u M l y=>?_) <| .c (pz [6] [] (by kernel_rfl) λqK Z wr u M l y=>?_) .nil) ?_
      ·have L:=aA l.1 rfl rfl;clear M l;go_simp
       go_at_call 24
       refine(rC (HV.1.keep (.old u))).mono ?_;rintro e w2 ⟨A,c,rfl,s,O⟩;rw[MQ.out]at s⊢;exact y _ _ O ⟨A,c,rfl,s.keep λq hq a=>⟨zFi u.size hq,a,rfl⟩⟩
      ·have D:=aA l.1 rfl rfl;obtain⟨u41,r,A,c,rfl,X⟩:=l.2.1;have r:Z.tmps[41]? =some (.slice A F c):=r;clear M l;go_simp;exact y _ _ zR ⟨A,c,rfl,X⟩
      ·obtain⟨u42,B,A,c,rfl,X⟩:=l.1;exact pI FW (.tmp 42) rfl [.int .i64 f.type,.slice A F c] (aB B) rfl (y _ _ (ba _ _) ⟨_,A,c,rfl,Bk.new _ _ _,X.keep (.old (ba _ _))⟩)
      intro qx w8 zy hR hS;obtain⟨gq,Aq,cq,r,kq,hq⟩:=hR 7 rfl rfl;clear hR hS;simp only[bJ,List.length,List.take,List.drop,zFd]
      go_frame
      generalize qx 7=z7 at r⊢;subst r;have ar:=zy.size;have L:=zH (P.old zy);have bb:Hid (zn d (λq=>(t.heap.size<=q/\some q≠(Value.slice A x.bD.length c).ownBlock)/\some q≠(Value.slice J x.bars.length K).ownBlock) (⟨f.type,f.gs⟩:qh) [.int .i64 f.type,.slice Aq F cq] w8):=zH ⟨_,rfl,hq.keep λb hb a=>⟨⟨⟨by omega,λe=>by have:=am b e.symm;omega⟩,λe=>by have:=aa b e.symm;omega⟩,a,rfl⟩⟩;have b7:=zH kq;clear hq kq y0 y1 a4;go_wp2_with (at_builtin;refine bu FW rfl _ _ rfl rfl L.bar rfl [.int .i64 f.type,.slice Aq F cq] b7.out (⟨f.type,f.gs⟩:qh) bb.out (by omega) (by omega) ?_;intro B D w9 h9 lJ fV sH)
      have dM:Below t.heap.size w8 w9:=lJ _ _ zL (by omega) zR
      have yX:∀b,b<w8.heap.size->some b≠(Value.slice J x.bars.length K).ownBlock->some b≠(Value.slice B (x.bars.length+1) D).ownBlock:=λb a b1 e=>by
       rcases sH with h|h
       ·exact b1 (e.trans h)
       rw[h]at e;injection e with e;omega
      have iG:(x.bars++[(⟨f.type,f.gs⟩:qh)]).length=x.bars.length+1:=by simp
      have a3:=fV.size;refine⟨⟨j+1,{x with bars:=x.bars++[(⟨f.type,f.gs⟩:qh)]},A,B,c,D,ad,by go_num,rfl,by show _=Value.slice B (x.bars++[(⟨f.type,f.gs⟩:qh)]).length D;rw[iG],ag,by show(x.bars++[(⟨f.type,f.gs⟩:qh)]).length<=_;rw[iG];omega,b6,zH ?_,zH ⟨by omega,dD L.gr dM,L.k4.below dM an,L.kb.grown fV (L.bar.ne L.kb (by decide)),?_,?_,?_,L.emp⟩⟩,by simp[intOf];omega⟩
      ·have:=hX.out;rw[zFk a5,nN.out]at this
       simpa[iL,rH,hf]using this
      ·show Bd (λq=>t.heap.size<=q/\some q≠(Value.slice B (x.bars++[(⟨f.type,f.gs⟩:qh)]).length D).ownBlock) _ _ _ _ _ _ _
       rw[iG];exact L.bD.kept fV (L.bD.apart L.bar (by decide)) λb hb _ a=>⟨⟨hb.1,yX b a hb.2⟩,hb.2⟩
      ·show Bd _ _ _ _ _ (x.bars++[(⟨f.type,f.gs⟩:qh)]) (Value.slice B (x.bars++[(⟨f.type,f.gs⟩:qh)]).length D) _
       rw[iG];exact h9
      show Nd d (λq=>t.heap.size<=q/\some q≠(Value.slice A x.bD.length c).ownBlock/\some q≠(Value.slice B (x.bars++[(⟨f.type,f.gs⟩:qh)]).length D).ownBlock) x.lv (.slice Al x.lv.length cl) w9
      rw[iG];exact L.lvs.keep λb hb a=>⟨⟨hb.1,hb.2.1,yX b a hb.2.2⟩,zFs a a3,fV.block b a hb.2.2⟩
     have b5:¬((f.form:Nat):Int)=3:=by omega
     have bq:(((f.form:Nat):Int)==3)=false:=by rw[zFz];exact b5
     have z2:Y.cell? ⟨G,2,none⟩=some (.slice A x.bD.length c):=P.k4.cell 2;obtain⟨ns,N⟩:=zN x.bD.length
     rw[N]at z2 am;have bl:ns<=32:=by omega
     by_cases ao:ns=32
     ·subst ao;have k2:Bk Y (w.heap.size+1) 38 #[(),"",""]:=(oK.2.1.grown P.gr (by simp;omega))
      go_wp2_with (refine ae gZ rfl _ _ rfl rfl [.int .i64 0,.slice none 0 0,.slice none 0 0] rfl k2 rfl rfl rfl ?_;intro w9 p9;have v0:=p9.bk.cell 0;have v1:=p9.bk.cell 1;have v2:=p9.bk.cell 2)
      have a7:R2=none:=by
       rw[<-hX.out,zFk a5,nN.out];simp[iL,rH,hf,N]
      have ak:gU ax ks bs=(⟨0,[],[]⟩,4):=by
       unfold gU;rw[aH.out,<-ab.out,zFk a,KU.out,mZ,ap.out,a7]
      rw[ak];refine zFg (v:=.tuple #[.agg #[(),"",""],.int .i64 4]) (by simp[results,results9,go_sem,v0,v1,v2]) rfl ?_;have al:=a1.size;have a3:=P.gr.size;refine⟨[_,_,_],rfl,⟨_,_,rfl,⟨none,0,rfl,by simp,Rw.nil⟩,⟨none,0,rfl,by simp,Rw.nil⟩⟩,p9.below _ _ (a1.grown P.gr a1.size λk hk=>by injection hk with hk;omega) (by omega)⟩
     have b9:¬((ns:Nat):Int)=32:=by omega
     have bj:(((ns:Nat):Int)==32)=false:=by rw[zFz];exact b9
     have a9:Y.cell? ⟨wo.heap.size,1,none⟩=some (.int .i64 n.window):=P.kb.cell 1;obtain⟨Q,U⟩:=zN x.bars.length
     obtain⟨nl,W⟩:=zN x.lv.length
     rw[U]at aa;have r:=zH (zA N (zA U W));rw[U,W];clear N U W;go_upto_region 15 with fail
     refine wx (λk=>false) [.is (.pointer (some ⟨G,2,none⟩)),.is (.slice A ns c),.is (.int .i64 x.parent),.is (.pointer (some ⟨H.heap.size,1,none⟩)),.is (.int .i64 f.type),.is (.pointer (some ⟨H.heap.size,0,none⟩)),.is (.int .i64 (f.form:Nat)),.is (.bool (f.form==2)),.is (.pointer (some ⟨wo.heap.size,1,none⟩)),.is (.int .i64 n.window),.is (.slice J Q K),.is (.slice Al nl cl),.is (.pointer (some ⟨H.heap.size,2,none⟩)),.is (.slice Ag F cg),
      sS (xg F (Nd d (λq=>Y.heap.size<=q) f.gs) λA c=>.slice A F c),sS (xg F (Nd d (λq=>Y.heap.size<=q) f.gs) λA' c'=>.agg #[x.parent,f.type,.bool (f.form==2),n.window,.slice J Q K,.slice Al nl cl,.slice A' F c',""]),
      sS (ExB 62 F (Nd d (λq=>Y.heap.size<=q) f.gs) λA' c'=>#[x.parent,f.type,.bool (f.form==2),n.window,.slice J Q K,.slice Al nl cl,.slice A' F c',""])] [7,14,15,16] (by kernel_rfl) (by kernel_rfl) (by kernel_rfl)
      (λC=>.c (px C rfl (λ_ _=>rfl)) <| .c (px C rfl (λ_ h=>bH (ld36 (bc h z2)))) <| .c (px C rfl (λ_ _=>rfl)) <| .c (px C rfl (λ_ _=>rfl)) <| .c (px C rfl (λ_ h=>bH (lD (bc h y1)))) <| .c (px C rfl (λ_ _=>rfl)) <| .c (px C rfl (λ_ h=>bH (lD (bc h y0)))) <| .c (pz [6] [] (by kernel_rfl) λqK Z wr u M l y=>?_) <|
       .c (px C rfl (λ_ _=>rfl)) <| .c (px C rfl (λ_ h=>bH (ld2 (bc h a9)))) <| .c (px C rfl (λ_ _=>rfl)) <| .c (px C rfl (λ_ _=>rfl)) <| .c (px C rfl (λ_ _=>rfl)) <| .c (px C rfl (λ_ h=>bH (jD (bc h a4)))) <|
       .c (pz [13] [] (by kernel_rfl) λqK Z wr u M l y=>?_) <| .c (pz [2,4,7,9,10,11,14] [] (by kernel_rfl) λqK Z wr u M l y=>?_) <| .c (pz [15] [] (by kernel_rfl) λqK Z wr u M l y=>?_) .nil) ?_
     ·have bx:=aA l.1 rfl rfl;clear M l;go_simp;exact y _ _ zR (by show(_:Value)=_;first|rfl|exact zGv Value.bool (um f.form 2)|(simp;exact um f.form 2)|(simp;omega))
     ·have bw:=aA l.1 rfl rfl;clear M l;go_simp
      go_at_call 24
      refine(rC (HV.1.keep (.old u))).mono ?_;rintro e w2 ⟨A,c,rfl,s,O⟩;rw[MQ.out]at s⊢;exact y _ _ O ⟨A,c,rfl,s.keep λq hq a=>⟨zFi u.size hq,a,rfl⟩⟩
     ·have a2:=aA l.1 rfl rfl;have bh:=aA l.2.1 rfl rfl;have b0:=aA l.2.2.1 rfl rfl;have a6:=aA l.2.2.2.1 rfl rfl;have av:=aA l.2.2.2.2.1 rfl rfl;have be:=aA l.2.2.2.2.2.1 rfl rfl;obtain⟨u64,af,A',c',rfl,X⟩:=l.2.2.2.2.2.2.1;exact YS (.tmp 52) (.tmp 54) (.tmp 57) (.tmp 59) (.tmp 60) (.tmp 61) (.tmp 64) rfl (aB a2) (aB bh) (aB b0) (aB a6) (aB av) (aB be) (aB af) (y _ _ zR ⟨A',c',rfl,X⟩)
     ·obtain⟨u65,a8,A',c',rfl,X⟩:=l.1;exact pI yu (.tmp 65) rfl [.int .i64 x.parent,.int .i64 f.type,.bool (f.form==2),.int .i64 n.window,.slice J Q K,.slice Al nl cl,.slice A' F c',.slice none 0 0] (aB a8) rfl (y _ _ (ba _ _) ⟨_,A',c',rfl,Bk.new _ _ _,X.keep (.old (ba _ _))⟩)
     intro qx w8 zy hR hS;obtain⟨gq,Aq,cq,X,kq,hq⟩:=hR 16 rfl rfl;clear hR hS;simp only[bJ,List.length,List.take,List.drop,zFd]
     go_frame
     generalize qx 16=be at X⊢;subst X;have ar:=zy.size;have L:=P.old zy;have af:=zH L
     have a2:∀g,(Value.slice J Q K).ownBlock=some g->some g≠(Value.slice A ns c).ownBlock:=λg hg e=>by
      have s:=L.bar.apart L.bD (by decide);rw[r.1,r.2.1]at s;rcases s with h|h
      ·rw[h]at hg;cases hg
      exact h (hg.trans e)
     have Sm:Q<=1000000000000:=by have:=r.2.1;omega
     obtain⟨X,a6⟩:∃z:fQ,(⟨x.parent,f.type,f.form==2,n.window,x.bars,x.lv,f.gs,[]⟩:fQ)=z:=⟨_,rfl⟩
     have a8:StQ d (λq=>t.heap.size<=q/\some q≠(Value.slice A ns c).ownBlock) X [.int .i64 x.parent,.int .i64 f.type,.bool (f.form==2),.int .i64 n.window,.slice J Q K,.slice Al nl cl,.slice Aq F cq,.slice none 0 0] w8:=by
      have s:=L.bar;have O:=L.lvs;rw[r.1,r.2.1]at s;rw[r.1,r.2.1,r.2.2]at O;rw[<-a6];exact⟨⟨_,_,_,_,rfl,s.Kq (λb hb he=>⟨hb,a2 b he⟩) (λb hb _=>hb) (by rw[r.2.1];exact Sm),O.keep λb hb a=>⟨⟨hb.1,hb.2.1⟩,a,rfl⟩,hq.keep λb hb a=>⟨⟨by omega,λe=>by have:=am b e.symm;omega⟩,a,rfl⟩,⟨none,0,rfl,by simp,Rw.nil⟩⟩,λ_=>rfl⟩
     have z:Bd (λq=>t.heap.size<=q) t.heap.size 62 8 (StQ d) x.bD (.slice A ns c) w8:=by
      have s:=L.bD;rw[r.1]at s;exact s.KT λb hb=>hb.1
     have h4:Bk w8 G 38 #[ax,.slice A3 ks.length c3,.slice A ns c]:=by
      have s:=L.k4
      rwa [r.1]at s
     have Td:=zH (zA a8 (zA z (zA h4 kq)));have av:=zH a6;clear a8 z h4 kq a6 L a2 y0 y1 a4 a9 z2;go_upto_region 16 with(at_builtin;refine bu yu rfl _ _ rfl rfl Td.2.1 rfl [.int .i64 x.parent,.int .i64 f.type,.bool (f.form==2),.int .i64 n.window,.slice J Q K,.slice Al nl cl,.slice Aq F cq,.slice none 0 0] Td.2.2.2 X Td.1 (by rw[r.1];omega) (by omega) ?_;intro B D w9 h9 lJ fV sH;rw[r.1]at h9 sH⊢;have k9:=Td.2.2.1.grown fV (Td.2.1.ne Td.2.2.1 (by decide));have z9:=k9.cell 2;have f9:=k9.frozen 2)
     have dM:Below t.heap.size w8 w9:=lJ _ _ zL (by omega) zR;have a3:=fV.size;have a6:Bk (w9.setCell ⟨G,2,none⟩ (.slice B (ns+1) D)) wo.heap.size 67 #[n.id,n.window,.slice (some ⟨b2,o2,none⟩) m cp]:=(af.kb.grown fV (Td.2.1.ne af.kb (by decide))).far (by show wo.heap.size≠G;omega) _;have Vw:Bk (w9.setCell ⟨G,2,none⟩ (.slice B (ns+1) D)) H.heap.size 69 #[.int .i64 (f.form:Nat),f.type,.slice Ag F cg,.slice Ac f.cs.length cc]:=((HV.2.2.old zy).grown fV (Td.2.1.ne (HV.2.2.old zy) (by decide))).far (by show H.heap.size≠G;omega) _;have a9:Nd d (λq=>S q/\q<w.heap.size) f.cs (.slice Ac f.cs.length cc) (w9.setCell ⟨G,2,none⟩ (.slice B (ns+1) D)):=((HV.2.1.keep (.old zy)).keep λb hb a=>⟨hb,zFs a a3,dM.block b (by omega)⟩).keep (dB.set λb hb=>⟨hb,by show b≠G;omega⟩);have b0:=h9.set (p:=⟨G,2,none⟩) (.slice B (ns+1) D) (λb hb=>by show b≠G;omega) an;have a8:=eu (v:=.slice B (ns+1) D) (i:=2) (dD af.gr dM);have z:=zH (zA a8 (zA (k9.put 2 (.slice B (ns+1) D)) (zA a6 (zA b0 (zA a9 Vw)))));have bh:(w9.setCell ⟨G,2,none⟩ (.slice B (ns+1) D)).heap.size=w9.heap.size:=by simp
     clear h9 lJ fV sH k9 z9 f9 dM a6 Vw a9 b0 a8 P Td;generalize w9.setCell ⟨G,2,none⟩ (.slice B (ns+1) D)=W9 at *;have z4:W9.cell? ⟨G,2,none⟩=some (.slice B (ns+1) D):=z.2.1.cell 2;have z3:W9.cell? ⟨H.heap.size,3,none⟩=some (.slice Ac f.cs.length cc):=z.2.2.2.2.2.cell 3;go_wp2_with fail
     refine(rC z.2.2.2.2.1).mono ?_;rintro e bw ⟨b0,a9,rfl,a6,VU⟩;have a8:=VU.size;go_wp2_with fail
     have iG:(x.bD++[X]).length=ns+1:=by rw[zFu,r.1];rfl
     refine⟨⟨j+1,⟨ns,[],f.cs,x.bD++[X]⟩,B,none,D,0,ad,by go_num,by first|rfl|(simp;done)|(show _=Value.int .i64 (ns:Nat);rw[show(((ns+1:Nat):Int)-1)=ns by omega])|(simp;omega)|go_num,rfl,by show(x.bD++[X]).length<=32;rw[iG];have:=r.1;omega,zFj _,⟨by show(-1:Int)<=ns;omega,by show(ns:Int)<((x.bD++[X]).length:Nat);rw[iG];omega⟩,zH ?_,zH ⟨by omega,dD z.1 (VU.mono z.1.size),?_,z.2.2.1.old VU,?_,Bd.nil (by have:=z.1.size;omega),?_,λ_=>?_⟩⟩,by simp[intOf];omega⟩
     ·have:=hX.out;rw[zFk a5,nN.out]at this;have s:¬x.bD.length=32:=by rw[r.1];exact ao
      rw[iL,rH,zF2 hf,zF2 s,r.1]at this;rw[<-av.out];exact this
     ·show Bk _ _ _ #[ax,.slice A3 ks.length c3,.slice B (x.bD++[X]).length D]
      rw[iG];exact z.2.1.old VU
     ·show Bd _ _ _ _ _ (x.bD++[X]) (.slice B (x.bD++[X]).length D) _
      rw[iG];exact(z.2.2.2.1.old VU).KT λb hb=>⟨hb,by simp[Value.ownBlock]⟩
     ·show Nd d (λq=>t.heap.size<=q/\some q≠(Value.slice B (x.bD++[X]).length D).ownBlock/\_) f.cs _ _
      rw[iG];exact a6.keep λb hb a=>⟨⟨by have:=z.1.size;omega,λe=>by have:=(z.2.2.2.1.lt e.symm).2;omega,by simp[Value.ownBlock]⟩,a,rfl⟩
     show(iD (x.bD++[X]) ((ns:Nat):Int).toNat).ends=[]
     rw[Int.toNat_natCast];unfold iD;rw[zGd (by rw[r.1];exact zFv _),r.1,zJi,<-av.out];rfl
    obtain⟨Al,cl,rfl⟩:=I.lvs.form;obtain rfl:j=m:=by omega
    have z:some x=R2:=by
     have:=hX.out
     rwa [zFq (by rw[HM.out];exact zFv _)]at this
    have a6:mZ (bs.drop (k+1)) (oz n.id x)=R:=by
     have:=ab.out;rw[zFk a,KU.out,mZ,ap.out,<-z]at this;exact this
    have ao:=zH a6;clear z a6
    by_cases hp:0<=x.parent
    ·obtain⟨X,af⟩:∃X:Nat,x.parent=X:=⟨x.parent.toNat,by omega⟩
     have a0:X<x.bD.length:=by omega
     have z:=I.emp hp;rw[af,Int.toNat_natCast]at z
     obtain⟨L,hA⟩:∃L,A=some ⟨L,0,none⟩:=by
      obtain⟨g,_,hA,_⟩:=I.bD.elem a0;exact⟨g,hA⟩
     subst hA;have b7:(X:Int)<((x.bD.length:Nat):Int):=by omega
     obtain⟨sp,a3⟩:=zN (x.bD[X])
     have av:iD x.bD X=sp:=(uO a0).trans a3;rw[av]at z;obtain⟨ns,N⟩:=zN x.bD.length
     obtain⟨Q,U⟩:=zN x.bars.length
     obtain⟨nl,W⟩:=zN x.lv.length
     have r:=zH (zA N (zA U W));have b1:X<ns:=by omega
     have z2:H.cell? ⟨G,2,none⟩=some (.slice (some ⟨L,0,none⟩) x.bD.length c):=I.k4.cell 2;have x0:H.cell? ⟨wo.heap.size,0,none⟩=some (.int .i64 n.id):=I.kb.cell 0;obtain⟨b9,a9,b0,_⟩:=I.bD.put1 a0 (j:=7) (by decide) (.slice none 0 0) rfl;rw[a3]at a9;have a8:=b0 7 _ (a9.2 z);rw[N]at z2 b7;rw[af,U,W];have Xu:=zH (zA a3 z);have Sm:Q<=1000000000000:=by omega
     have a2:∀g,(Value.slice J Q K).ownBlock=some g->some g≠some L:=λg hg e=>by
      have s:=I.bar.apart I.bD (by decide);rw[r.2.1]at s;rcases s with h|h
      ·rw[h]at hg;cases hg
      exact h (hg.trans e)
     have b5:t.heap.size<=L/\L<H.heap.size:=I.bD.lt rfl
     have NJ:Hid (Oa d (λq=>t.heap.size<=q/\q≠L) ⟨n.id,x.lv,x.bars⟩ [.int .i64 n.id,.slice Al nl cl,.slice J Q K] H):=zH (by
      have s:=I.bar;have O:=I.lvs;rw[r.1,r.2.1]at s;rw[r.1,r.2.1,r.2.2]at O
      exact⟨_,_,rfl,O.keep λb hb a=>⟨⟨hb.1,λe=>hb.2.1 (by rw[e];rfl)⟩,a,rfl⟩,s.Kq (λb hb he=>⟨hb,λe=>a2 b he (by rw[e])⟩) (λb hb _=>⟨hb.1,λe=>hb.2 (by rw[e];rfl)⟩) (by rw[r.2.1];exact Sm)⟩)
     clear a9 b0 a3 av z N U W a2;go_upto_region 21 with fail
     refine wx (λk=>false) [.is (.pointer (some ⟨L,X*8,none⟩)),.is (.pointer (some ⟨L,X*8,none⟩)),.is (.pointer (some ⟨L,X*8,none⟩)),.is (.pointer (some ⟨L,X*8+7,none⟩)),.is (.slice none 0 0),.is (.pointer (some ⟨wo.heap.size,0,none⟩)),.is (.int .i64 n.id),.is (.slice Al nl cl),.is (.slice J Q K),.is (.agg #[n.id,.slice Al nl cl,.slice J Q K]),
      .st (λv w=>∃g,v=.slice (some ⟨g,0,none⟩) 1 1/\Bk w g 64 #[n.id,.slice Al nl cl,.slice J Q K]) (λ_ _ _ hb ⟨g,s,O⟩=>⟨g,s,O.old hb⟩),
      sS (xg 1 (Bd (λq=>t.heap.size<=q/\q≠L) H.heap.size 64 3 (Oa d) [(⟨n.id,x.lv,x.bars⟩:VG)]) λA c=>.slice A 1 c)] [9,10,11] (by kernel_rfl) (by kernel_rfl) (by kernel_rfl)
      (λC=>.c (px C rfl (λ_ _=>rfl)) <| .c (px C rfl (λ_ _=>rfl)) <| .c (px C rfl (λ_ _=>rfl)) <| .c (px C rfl (λ_ _=>rfl)) <| .c (px C rfl (λ_ h=>bH (MJ (bc h a8)))) <| .c (px C rfl (λ_ _=>rfl)) <| .c (px C rfl (λ_ h=>bH (lD (bc h x0)))) <| .c (px C rfl (λ_ _=>rfl)) <| .c (px C rfl (λ_ _=>rfl)) <|
       .c (pz [6,7,8] [] (by kernel_rfl) λqK Z wr u M l y=>?_) <| .c (pz [9] [] (by kernel_rfl) λqK Z wr u M l y=>?_) <| .c (pz [4,10] [] (by kernel_rfl) λqK Z wr u M l y=>?_) .nil) ?_
     ·have a3:=aA l.1 rfl rfl;have av:=aA l.2.1 rfl rfl;have a9:=aA l.2.2.1 rfl rfl;clear M l;go_simp;exact y _ _ zR rfl
     ·have M:=aA l.1 rfl rfl;exact pI Dy (.tmp 92) rfl [.int .i64 n.id,.slice Al nl cl,.slice J Q K] (aB M) rfl (y _ _ (ba _ _) ⟨_,rfl,Bk.new _ _ _⟩)
     ·have Z:=aA l.1 rfl rfl;obtain⟨u93,z,g,rfl,k1⟩:=l.2.1;refine Kt (S:=λq=>t.heap.size<=q/\q≠L) (base:=H.heap.size) Dy (.tmp 87) (.tmp 93) rfl (aB Z) (Bd.nil u.size) (aB z) [.int .i64 n.id,.slice Al nl cl,.slice J Q K] k1 (⟨n.id,x.lv,x.bars⟩:VG) (CK.keep (λb hb a=>⟨⟨hb,by simp[Value.ownBlock]⟩,zFs a u.size,u.block b a⟩) NJ.out) (by simp) u.size ?_;intro A' c' w' h3 hf hg;simp only[zF4,zFr,List.nil_append]at h3⊢;exact y _ _ (Ob hg) ⟨A',c',rfl,h3⟩
     intro qx w8 zy hR hS;obtain⟨B,D,l,h9⟩:=hR 11 rfl rfl;clear hR hS;simp only[bJ,List.length,List.take,List.drop,zFd]
     go_frame
     generalize qx 11=a3 at l⊢;subst l;have ar:=zy.size;have M:=I.old zy;have l:=M.bD.KT (S2:=λq=>t.heap.size<=q) λb hb=>hb.1
     rw[r.1]at l;obtain⟨a9,y⟩:=l.bk;have x7:=bc zy a8;have f7:=y.frozen (X*8+7);have z:=zH (zA h9 (zA M.gr (zA M.k4 (zA l (by rw[r.1];exact b1:X<x.bD.length)))));clear h9 M l y a8 x0 z2;go_wp2_with fail
     obtain⟨NW,XC,_,Z⟩:=z.2.2.2.1.put1 z.2.2.2.2 (j:=7) (by decide) (.slice B 1 D) rfl
     have l:oz n.id x=x.bD.set X {sp with ends:=[⟨n.id,x.lv,x.bars⟩]}:=by
      unfold oz;rw[zF3 hp,af,Int.toNat_natCast,DI z.2.2.2.2,Xu.1,Xu.2];rfl
     have M:=Z {sp with ends:=[⟨n.id,x.lv,x.bars⟩]} (by
      rw[Xu.1]at XC;obtain⟨⟨v4,v5,v6,v7,rfl,i4,y,i6,i7⟩,_⟩:=XC
      exact⟨⟨v4,v5,v6,.slice B 1 D,rfl,i4,y,i6,z.1.Kq (λb hb _=>⟨by omega,by omega⟩) (λb hb _=>hb) (by simp)⟩,λh=>by cases h⟩)
     have y:Below t.heap.size w8 (w8.setCell ⟨L,X*8+7,none⟩ (.slice B 1 D)):=zR.setCell b5.1 _;have E:(oz n.id x).length=ns:=by rw[l,zH0,r.1]
     refine⟨?_,by simp[intOf];omega⟩
     repeat apply Exists.intro
     refine⟨?_,rfl⟩;refine⟨k+1,oz n.id x,some ⟨L,0,none⟩,c,a,by go_num,by rw[E,<-r.1];exact ag,ao,zH ⟨dD z.2.1 y,?_,?_⟩⟩
     ·rw[E,<-r.1];exact z.2.2.1.below y an
     rw[E,l];exact M
    have l:oz n.id x=x.bD:=by
     unfold oz;rw[zF2 hp]
    rw[l]at ao;go_wp2_with fail
    refine⟨?_,by simp[intOf];omega⟩
    repeat apply Exists.intro
    refine⟨?_,rfl⟩;exact⟨k+1,x.bD,A,c,a,by go_num,ag,ao,zH ⟨I.gr,I.k4,I.bD.KT λb hb=>hb.1⟩⟩
  obtain rfl:k=bs.length:=by omega
  have a6:some rJ=R:=by
   have:=ab.out
   rwa [zFq zL]at this
  have ak:gU ax ks bs=(⟨ax,ks,rJ⟩,0):=by
   unfold gU;rw[aH.out,<-a6]
  have k2:Bk wo (w.heap.size+1) 38 #[(),"",""]:=oK.2.1.grown hI.1 (by simp;omega)
  go_wp2_with (first|(refine aV gZ zq rfl (.tmp 4) rfl rfl [.int .i64 ax,.slice A3 ks.length c3,.slice A0 rJ.length c0] rfl (λi v f=>by rw[zFr,hI.2.1.cell i];simpa using f) ?_)|
   (refine ae gZ rfl _ _ rfl rfl [.int .i64 ax,.slice A3 ks.length c3,.slice A0 rJ.length c0] rfl k2 rfl rfl rfl ?_;intro w9 p9;have v0:=p9.bk.cell 0;have v1:=p9.bk.cell 1;have v2:=p9.bk.cell 2))
  rw[ak];refine zFg (v:=.tuple #[.agg #[ax,.slice A3 ks.length c3,.slice A0 rJ.length c0],()]) (by simp[results,results9,go_sem,v0,v1,v2]) rfl ?_;have al:=a1.size;have l:=hI.1.size;refine⟨[_,_,_],rfl,⟨_,_,rfl,?_,?_⟩,p9.below _ _ (a1.grown hI.1 a1.size λk hk=>by injection hk with hk;omega) (by omega)⟩
  ·exact((oK.2.2.keep (dB.gV hI.1 λb hb e=>hb.2 (zGv some e))).keep (dB.fE p9 λb hb=>by omega)).keep λb hb a=>⟨by omega,a,rfl⟩
  have s:=(hI.2.2.Kq (S:=λq=>t.heap.size<=q) (λb hb _=>hb) (λb hb _=>hb) (by omega)).keep (dB.fE p9 λb hb=>by omega);obtain⟨A',c',f,e,ps,O,h3,h4⟩:=s;exact⟨A',c',f,e,ps,O,h3.keep λb hb a=>⟨by omega,a,rfl⟩,λp hp=>CK.keep (λb hb a=>⟨by omega,a,rfl⟩) (h4 p hp).1⟩
end
end Go.Proofs.YtbjnhllkdilpfaaGreat
