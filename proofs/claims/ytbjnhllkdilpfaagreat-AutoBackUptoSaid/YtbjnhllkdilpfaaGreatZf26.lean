/- Part 26 of the proof. No conditions. -/
import Derived.Test.YtbjnhllkdilpfaaGreatZf25
set_option linter.unusedVariables false
set_option linter.unusedSimpArgs false
set_option maxRecDepth 100000
set_option maxHeartbeats 8000000
namespace Go.Proofs.YtbjnhllkdilpfaaGreat
open Go.RowKit _root_.Go.Proofs.Tryz
def rowA (c:Bool) (p:aZ):Value×List ah:=bif c then(p.c,p.cs)else(p.g,p.gs)
def uZ (c:Bool) (v:Value) (ns:List ah) (p:aZ):aZ:=bif c then {p with c:=v,cs:=ns}else {p with g:=v,gs:=ns}
def updB (i:Nat) (c:Bool) (v:Value) (ns:List ah) (b:bQ):bQ:={b with ps:=b.ps.modify i (uZ c v ns)}
def fZ (xs:List bQ) (k i:Nat) (c:Bool) (v:Value) (ns:List ah):List bQ:=xs.modify k (updB i c v ns)
def ve (c:Bool):Nat:=bif c then 3 else 2
def Xx (b:bQ):Nat×Int×Value×List (Nat×Int):=(b.id,b.window,b.parts,b.ps.map λp=>(p.form,p.type))
def mX (xs:List bQ):List (Nat×Int×Value×List (Nat×Int)):=xs.map Xx
theorem wP {α β:Type} (f:α->β) (g:α->α) (h:∀x,f (g x)=f x):∀(l:List α) (k:Nat),(l.modify k g).map f=l.map f
 |[],k=>by cases k<;>rfl
 |x::l,0=>by simp[h]
 |x::l,k+1=>by simp[List.modify_succ_cons,wP f g h l k]
theorem rE (xs:List bQ) (k i:Nat) (c:Bool) (v:Value) (ns:List ah):mX (fZ xs k i c v ns)=mX xs:=
 wP Xx _ (λb=>by
  unfold Xx updB;simp only
  rw[wP (λp:aZ=>(p.form,p.type)) (uZ c v ns) (λp=>by unfold uZ;cases c<;>rfl)]) xs k
def Gx (N:Nat) (xs:List bQ):Prop:=∀b∈xs,∀p∈b.ps,p.gs.length<=N/\p.cs.length<=N/\(p.form=3->p.cs=[])
theorem mem_modify {α:Type} {g:α->α}:∀{l:List α} {k:Nat} {x:α},x∈l.modify k g->x∈l\/∃y,l[k]? =some y/\x=g y
 |[],k,x,h=>by cases k<;>simp at h
 |y::l,0,x,h=>by
  rw[List.modify_zero_cons,zF6]at h;rcases h with rfl|h
  ·exact .inr ⟨y,rfl,rfl⟩
  exact .inl (by simp[h])
 |y::l,k+1,x,h=>by
  rw[List.modify_succ_cons,zF6]at h;rcases h with rfl|h
  ·exact .inl (by simp)
  rcases mem_modify h with h|⟨z,a,b⟩
  ·exact .inl (by simp[h])
  exact .inr ⟨z,by simpa using a,b⟩
theorem Gx.upd {N:Nat} {xs:List bQ} (h:Gx N xs) {k i:Nat} {c:Bool} {v:Value} {ns:List ah} (j:ns.length<=N) (q:c=true->∀b p,xs[k]? =some b->b.ps[i]? =some p->p.form=3->ns=[]):Gx N (fZ xs k i c v ns):=by
 intro b hb p d;rcases mem_modify hb with hb|⟨e,f,rfl⟩
 ·exact h b hb p d
 have a:=zGj f;rcases mem_modify d with d|⟨p0,g,rfl⟩
 ·exact h e a p d
 obtain⟨o,l,m⟩:=h e a p0 (zGj g);unfold uZ;cases c
 ·exact⟨j,l,m⟩
 exact⟨o,j,λn=>q rfl e p0 f g n⟩
theorem RY {xs:List bQ} {k i:Nat} {c:Bool} {v:Value} {ns:List ah} (b:k<xs.length) (a:i<xs[k].ps.length):
  xs=xs.take k++xs[k]::xs.drop (k+1)/\xs[k].ps=xs[k].ps.take i++xs[k].ps[i]::xs[k].ps.drop (i+1)/\fZ xs k i c v ns=xs.take k++{xs[k]with ps:=xs[k].ps.take i++uZ c v ns xs[k].ps[i]::xs[k].ps.drop (i+1)}::xs.drop (k+1):=by
 refine⟨by rw[<-zFk b,zJd],by rw[<-zFk a,zJd],?_⟩;unfold fZ;rw[zKr b];unfold updB;rw[zKr a]
theorem qw.upd {K K':Nat->Prop} {B d:Nat} {bv:Value} {xs:List bQ} {W W1:World} {gp k i:Nat} {c:Bool} {v':Value} {ns':List ah} (h:qw K B d bv xs W) (o:∀q,K q->K' q) (w:k<xs.length) (x:i<xs[k].ps.length) (u:xs[k].parts.ownBlock=some gp)
  (f:W1.ownsRow B 122 7 v' ns'.length (ns'.flatMap ah.cells)) (r:W.grownBy W1 (rowA c xs[k].ps[i]).1.ownBlock) (m:v'.ownBlock=(rowA c xs[k].ps[i]).1.ownBlock\/∀q,v'.ownBlock=some q->aJ bv xs q/\¬K q)
  (s:∀y∈ns',okS (λq=>K' q/\aJ bv xs q/\some q≠v'.ownBlock) d y W1):qw K' B d bv (fZ xs k i c v' ns') (W1.setCell ⟨gp,i*4+ve c,none⟩ v'):=by
 obtain⟨n,t,z⟩:=RY (c:=c) (v:=v') (ns:=ns') w x;rw[z];have A:(xs[k].ps.take i).length=i:=by rw[zG9];omega
 have e:=oM (b1:=xs.take k) (b2:=xs.drop (k+1)) (b:=xs[k]) t;have l:=oM (b1:=xs.take k) (b2:=xs.drop (k+1)) (b:={xs[k]with ps:=xs[k].ps.take i++uZ c v' ns' xs[k].ps[i]::xs[k].ps.drop (i+1)}) rfl
 have a:=λR1 R2=>qw.rep (K:=K) (K':=K') (B:=B) (d:=d) (bv:=bv) (b1:=xs.take k) (b2:=xs.drop (k+1)) (b:=xs[k]) (p1:=xs[k].ps.take i) (p2:=xs[k].ps.drop (i+1)) (p:=xs[k].ps[i]) (p':=uZ c v' ns' xs[k].ps[i]) (R1:=R1) (R2:=R2) (v:=(rowA c xs[k].ps[i]).1) (v':=v') (ns:=(rowA c xs[k].ps[i]).2) (ns':=ns') (W:=W) (W1:=W1) (gp:=gp) (j:=ve c)
  (n▸h) o t u (by unfold ve;cases c<;>decide) (by unfold ve uZ;cases c<;>rfl)
 rw[A]at a;rw[<-n]at a;cases c
 ·exact a (bI (xs.take k)++(xs[k].ps.take i).flatMap dQ) ((xs[k].ps[i].c,xs[k].ps[i].cs)::((xs[k].ps.drop (i+1)).flatMap dQ++bI (xs.drop (k+1)))) (by rw[<-n]at e;rw[e];simp[dQ,rowA]) (by rw[l];simp[dQ,uZ]) f r m s
 exact a (bI (xs.take k)++(xs[k].ps.take i).flatMap dQ++[(xs[k].ps[i].g,xs[k].ps[i].gs)]) ((xs[k].ps.drop (i+1)).flatMap dQ++bI (xs.drop (k+1))) (by rw[<-n]at e;rw[e];simp[dQ,rowA]) (by rw[l];simp[dQ,uZ]) f r m s
theorem qi {bv:Value} {xs:List bQ} {k i:Nat} {c:Bool} {v:Value} {ns:List ah} (o:k<xs.length) (r:i<xs[k].ps.length) {q:Nat} (h:aJ bv xs q) (n:some q≠v.ownBlock):aJ bv (fZ xs k i c v ns) q:=by
 refine⟨h.1,λb hb=>?_,λz a=>?_⟩
 ·rcases mem_modify hb with hb|⟨e,g,rfl⟩
  ·exact h.2.1 b hb
  exact h.2.1 e (zGj g)
 obtain⟨b,hb,a⟩:=zGn.1 a;rcases mem_modify hb with hb|⟨e,g,rfl⟩
 ·exact h.2.2 z (zGn.2 ⟨b,hb,a⟩)
 obtain⟨p,j,a⟩:=zGn.1 a;have d:=zGj g;rcases mem_modify j with j|⟨p0,m,rfl⟩
 ·exact h.2.2 z (zGn.2 ⟨e,d,zGn.2 ⟨p,j,a⟩⟩)
 have l:=zGj m;have f:∀z∈dQ p0,some q≠z.1.ownBlock:=λz a=>h.2.2 z (zGn.2 ⟨e,d,zGn.2 ⟨p0,l,a⟩⟩)
 unfold uZ at a;cases c<;>(simp only[dQ,zF6,zGi,zHt,cond_true,cond_false]at a;rcases a with rfl|rfl)<;>first|exact n|exact f _ (by simp[dQ])
def Si (d:Nat) (S:Nat->Prop) (ns:List ah) (v:Value) (w:World):Prop:=∃(A:Option Addr) (c:Nat),v=.slice A ns.length c/\Rd w w.heap.size A (ns.flatMap ah.cells)/\(∀y∈ns,okS S d y w)/\ns.length<=1048576/\ns.length<=c
theorem Si.old {d:Nat} {S:Nat->Prop} {ns:List ah} {v:Value} {w w':World} (h:Si d S ns v w) (hb:Below w w w'):Si d S ns v w':=by
 obtain⟨A,c,b,f,e,g⟩:=h;exact⟨A,c,b,(f.below hb).more hb.size,λy a=>(e y a).keep (dB.old hb),g⟩
theorem Si.elem {d:Nat} {S:Nat->Prop} {ns:List ah} {A:Option Addr} {l c:Nat} {w:World} (h:Si d S ns (.slice A l c) w) {k:Nat} (e:k<ns.length):∃b o,A=some ⟨b,o,none⟩/\b<w.heap.size/\okS S d ns[k] w/\∀(j:Nat) (u:Value),ns[k].cells[j]? =some u->w.cell? ⟨b,o+k*7+j,none⟩=some u:=by
 obtain⟨s,c',a,m,i,r⟩:=h;injection a with a _ _
 subst a;rcases m with q|⟨b,o,f,p,g⟩
 ·have:=jl (n:=7) ah.cells ns λx _=>x.len
  rw[q]at this;simp at this;omega
 exact⟨b,o,f,p,i _ (zFe e),λj u a=>by
  rw[zJb]
  exact g _ _ (by rw[jd (n:=7) ah.cells ns (λx _=>x.len) k j e (by have:=(zFc.1 a).1;rwa [ah.len]at this)];exact a)⟩
theorem Si.lo {d:Nat} {S:Nat->Prop} {ns:List ah} {v:Value} {w:World} (h:Si d S ns v w):Si d (λq=>S q/\q<w.heap.size) ns v w:=by
 obtain⟨A,c,e,f,g,i⟩:=h;exact⟨A,c,e,f,λy a=>(g y a).keep λb hb a=>⟨⟨hb,a⟩,a,rfl⟩,i⟩
def NoW (d m:Nat) (S:Nat->Prop) (w:World) (e:Ending) (w':World):Prop:=∃(A:Option Addr) (c:Nat) (ns:List ah),e=.returned (.slice A ns.length c)/\ns.length<=m/\Bd (λq=>S q\/w.heap.size<=q) w.heap.size 122 7 (Hy d) ns (.slice A ns.length c) w'/\Below w w w'
theorem Qe {d:Nat} {S:Nat->Prop} {ns:List ah} {v:Value} {w:World} (h:Si d S ns v w):Calls prog 47 #[v] w (NoW d ns.length S w):=by
 have a:=h;obtain⟨A,c,rfl,_,_,X,_⟩:=a;have N:=zH h.lo;obtain⟨l,a⟩:=zN ns.length
 have R:=zH a;rw[a]at N X⊢;clear h a
 go_enter func47,ntmps47
 go_wp2_with fail
 go_loopw[3,7] (λa i wr=>∃(k:Nat) (D:List ah),k<=l/\i=.int .i64 k/\Hid (D.length=k/\Below w w wr/\Bd (λq=>S q/\q<w.heap.size\/w.heap.size<=q) w.heap.size 122 7 (Hy d) D a wr)) (λ_ i _=>l-(intOf i).toNat)
 case atStart=>exact⟨0,[],zFj _,rfl,zH ⟨rfl,zGp _ _,Bd.nil zL⟩⟩
 case round=>
  obtain⟨k,D,Z,rfl,g⟩:=hrel;obtain⟨U,rfl⟩:∃z:World,z=wr:=⟨_,rfl⟩
  obtain⟨K,L,rfl,_⟩:=g.2.2.form;have a:=g.1;have f:=zH a;rw[a]at g⊢;clear a;have F:=g.2.1.size
  by_cases m:k<l
  ·have u:k<ns.length:=by rw[R.out];exact m
   obtain⟨b,o,rfl,hb,e,G⟩:=(N.old g.2.1).elem u;have J:=zH (zAc d (λq=>S q/\q<w.heap.size) ns[k] U e);obtain⟨cs,a⟩:=zN (ns[k].cells)
   rw[a]at G J;have p:cs.length=7:=by rw[<-a];exact ah.len _
   clear a e;go_wp2_with (refine aj dR rfl _ rfl rfl cs p G ?_)
   refine J.mono ?_;rintro e w2 ⟨n,rfl,r,j⟩;obtain⟨y,a,B,s,E,x,t,C,z⟩:=n;obtain⟨I,n⟩:=zN E.length
   simp only[ah.cells,n];have Q:=zH r;have H:=zH n;have W:=j.size;have O:=(g.2.2.old j).old (ba w2 (.cells #[y,a,.slice B I s,x,.int .u64 t,C,z] 122));have Y:=zH (g.2.1.trans (j.mono F))
   have P:Hid (okS (λq=>(S q/\q<w.heap.size\/w.heap.size<=q)/\some q≠(Value.slice K k L).ownBlock) d (.mk y a B s E x t C z) w2):=zH (Q.keep λq M m=>⟨⟨M.imp id λh=>by omega,λe=>by
    have:=g.2.2.lt e.symm;rcases M with h|h
    ·have:=h.2;omega
    omega⟩,m,rfl⟩)
   clear G J p r n j;go_wp2_with (first|(refine dC dR rfl _ rfl [.int .i64 y,.int .i64 a,.slice B I s,.int .i64 x,.int .u64 t,.int .i64 C,.int .i64 z] rfl rfl ?_)|(at_builtin;refine bu dR rfl _ _ rfl rfl O rfl [.int .i64 y,.int .i64 a,.slice B I s,.int .i64 x,.int .u64 t,.int .i64 C,.int .i64 z] (Bk.new _ _ _) (.mk y a B s E x t C z) ⟨by simp[ah.cells,H.out],P.keep (dB.old (ba _ _))⟩ (by rw[f.out];omega) (by simp;omega) ?_;intro M J w9 n p r G))
   rw[f.out]at n⊢;go_roundw
   case rel=>exact⟨k+1,_,m,by go_num,zH ⟨by simp[f.out],p _ _ zL (by simp;omega) (Y.alloc (by omega) _),n⟩⟩
   case measure=>simp[intOf];omega
  have j:k=l:=by omega
  subst j;go_wp2_with fail
  go_ret
  refine⟨K,L,D,by rw[f.out];rfl,by rw[f.out];exact zFv _,?_,g.2.1⟩;rw[f.out];exact g.2.2.wide (λb hb=>hb.imp And.left id) zL
def Sj (K:Nat->Prop) (d lo hi:Nat) (ns:List ah) (v:Value) (w:World):Prop:=w.ownsRow lo 122 7 v ns.length (ns.flatMap ah.cells)/\(∀k,v.ownBlock=some k->k<hi)/\∀y∈ns,okS (λq=>(K q\/lo<=q/\q<hi)/\some q≠v.ownBlock) d y w
theorem Sj.old {K:Nat->Prop} {d b a:Nat} {ns:List ah} {v:Value} {w w':World} (h:Sj K d b a ns v w) (hb:Below w w w'):Sj K d b a ns v w':=⟨aT h.1 hb,h.2.1,λy c=>(h.2.2 y c).keep (dB.old hb)⟩
theorem KO:∀(ps:List (ah×List Value)),(∀p∈ps,p.2=p.1.cells)->ps.flatMap Prod.snd=(ps.map Prod.fst).flatMap ah.cells
 |[],_=>rfl
 |p::ps,h=>by rw[zGx,zGq,zGx,KO ps λq a=>h q (by simp[a]),h p (by simp)]
theorem Bd.nv {S:Nat->Prop} {B d:Nat} {ns:List ah} {v:Value} {w:World} (h:Bd S B 122 7 (Hy d) ns v w):w.ownsRow B 122 7 v ns.length (ns.flatMap ah.cells)/\∀y∈ns,okS (λq=>S q/\some q≠v.ownBlock) d y w:=by
 obtain⟨ps,rfl,c,b⟩:=h;rw[KO ps λp a=>(b p a).1]at c
 exact⟨c,λy e=>by
  obtain⟨p,a,rfl⟩:=zGa.1 e
  exact(b p a).2⟩
theorem NoW.own {d m:Nat} {S:Nat->Prop} {w w':World} {e:Ending} (h:NoW d m S w e w'):∃(A:Option Addr) (c:Nat) (ns:List ah),e=.returned (.slice A ns.length c)/\ns.length<=m/\Sj S d w.heap.size w'.heap.size ns (.slice A ns.length c) w'/\Below w w w':=by
 obtain⟨A,c,ns,g,i,a,j⟩:=h;obtain⟨f,l⟩:=a.nv;exact⟨A,c,ns,g,i,⟨f,λk a=>(f.lt k a).2,λy a=>(l y a).keep λb hb a=>⟨⟨hb.1.imp id λh=>⟨h,a⟩,hb.2⟩,a,rfl⟩⟩,j⟩
theorem qw.far {K:Nat->Prop} {B d:Nat} {bv:Value} {xs:List bQ} {W:World} (h:qw K B d bv xs W) {q:Nat} (c:W.heap.size<=q):aJ bv xs q:=
 ⟨λe=>by have:=(h.dJ.lt q e.symm).2;omega,λb hb e=>by have:=((h.prt b hb).lt q e.symm).2;omega,λz a e=>by have:=((h.mO z a).lt q e.symm).2;omega⟩
theorem Hz {xs:List bQ} {k i:Nat} {c:Bool} {v:Value} {ns:List ah} (b:k<xs.length) (a:i<xs[k].ps.length):∃(d:k<(fZ xs k i c v ns).length),(fZ xs k i c v ns)[k].parts=xs[k].parts/\i<(fZ xs k i c v ns)[k].ps.length:=by
 refine⟨by simpa[fZ]using b,?_,?_⟩
 ·simp[fZ,updB,zJj]
 simpa[fZ,updB,zJj]using a
theorem qw.part {K:Nat->Prop} {B d:Nat} {bv:Value} {xs:List bQ} {W:World} (h:qw K B d bv xs W) {k i:Nat} (o:k<xs.length) (w:i<xs[k].ps.length):∃gp c,xs[k].parts=.slice (some ⟨gp,0,none⟩) xs[k].ps.length c/\B<=gp/\gp<W.heap.size/\(∀(j:Nat) (u:Value),xs[k].ps[i].cells[j]? =some u->W.cell? ⟨gp,i*4+j,none⟩=some u)/\(∀j,W.frozen? ⟨gp,j,none⟩=false)/\∀q,aJ bv xs q->q≠gp:=by
 have hb:=h.prt _ (zFe o);rcases hb.2 with⟨m,x⟩|⟨g,f,b,m,l,v,_⟩
 ·omega
 have a:xs[k].parts.ownBlock=some g:=by rw[m];rfl
 refine⟨g,f,m,l,Bk.lt (t:=69) (cs:=b) v,λj u r=>?_,λj=>qW hb a j,λq s e=>s.2.1 _ (zFe o) (by rw[a,e])⟩;have e:j<4:=by have:=(zFc.1 r).1;rwa [lU]at this
 have:=hb.cells (g:=g) a (i*4+j) u (by rw[jd (n:=4) aZ.cells _ (λp _=>lU p) i j w e];exact r)
 rwa [yw]at this
theorem Sj.setA {B d b g gp i:Nat} {bv u:Value} {xs:List bQ} {W w:World} {ns:List ah} {v:Value} (h:Sj (λq=>B<=q/\q<W.heap.size/\aJ bv xs q) d b g ns v w) (k:W.heap.size<=b) (j:gp<W.heap.size) (c:∀q,aJ bv xs q->q≠gp):Sj (λq=>B<=q/\q<W.heap.size/\aJ bv xs q) d b g ns v (w.setCell ⟨gp,i,none⟩ u):=
 ⟨zGw h.1 (λe=>by have:=(h.1.lt gp e).1;omega) _,h.2.1,λy a=>(h.2.2 y a).keep λq f a=>⟨f,by simpa using a,zGt _ _ _ q (by
  show q≠gp
  rcases f.1 with h|h
  ·exact c q h.2.2
  omega)⟩⟩
theorem iC.one {B d:Nat} {bv:Value} {xs:List bQ} {W f w:World} {gp k i b e:Nat} {j:Value} {n:List ah} {c:Bool} (h:iC B d bv xs W) (hb:Below W W f) (r:Below f.heap.size (f.setCell ⟨gp,i*4+ve c,none⟩ j) w) (o:k<xs.length) (u:i<xs[k].ps.length) (p:xs[k].parts.ownBlock=some gp) (v:B<=W.heap.size)
  (g:Sj (λq=>B<=q/\q<W.heap.size/\aJ bv xs q) d b e n j f) (x:W.heap.size<=b):qw (λq=>B<=q/\q<W.heap.size\/b<=q/\q<e) B d bv (fZ xs k i c j n) w:=by
 have m:∀q,W.heap.size<=q->aJ bv xs q:=λq a=>h.s.far a
 have t:=(h.s.old hb).upd (K':=λq=>B<=q/\q<W.heap.size\/b<=q/\q<e) (λq a=>.inl a) (c:=c) o u p (bV g.1 (by omega)) (zF8 _ _)
  (.inr λq a=>⟨m q (by have:=(g.1.lt q a).1;omega),λz=>by have:=(g.1.lt q a).1;omega⟩)
  (λy l=>(g.2.2 y l).keep λq a l=>⟨⟨by
   rcases a.1 with h|h
   ·exact .inl ⟨h.1,h.2.1⟩
   ·exact .inr h,by
   rcases a.1 with h|h
   ·exact h.2.2
   exact m q (by omega),a.2⟩,l,rfl⟩)
 exact t.old (W':=w) (by simpa using r)
theorem iC.two {B d:Nat} {bv:Value} {xs:List bQ} {W w:World} {gp k i f j b g:Nat} {p o:Value} {C x:List ah} (h:iC B d bv xs W) (I:qw (λq=>B<=q/\q<W.heap.size\/f<=q/\q<j) B d bv (fZ xs k i false p C) w) (t:k<xs.length) (z:i<xs[k].ps.length) (H:xs[k].parts.ownBlock=some gp) (K:B<=W.heap.size) (l:∀q,p.ownBlock=some q->f<=q/\q<j)
  (n:Sj (λq=>B<=q/\q<W.heap.size/\aJ bv xs q) d b g x o w) (L:W.heap.size<=f) (J:W.heap.size<=b) (M:j<=b\/g<=f):
  iC B d bv (fZ (fZ xs k i false p C) k i true o x) (w.setCell ⟨gp,i*4+3,none⟩ o):=by
 have F:∀q,W.heap.size<=q->aJ bv xs q:=λq a=>h.s.far a
 obtain⟨u,r,E⟩:=Hz (c:=false) (v:=p) (ns:=C) t z
 have G:=I.upd (K':=λq=>(B<=q/\q<W.heap.size\/f<=q/\q<j)\/b<=q/\q<g) (λq a=>.inl a) (c:=true) (v':=o) (ns':=x) u E (gp:=gp) (by rw[r];exact H)
  (bV n.1 (by omega)) (zF8 _ _)
  (.inr λq a=>⟨qi t z (F q (by have:=(n.1.lt q a).1;omega)) (λe=>by have:=l q e.symm;have:=(n.1.lt q a).1;have:=n.2.1 q a;omega),λN=>by have:=(n.1.lt q a).1;have:=n.2.1 q a;omega⟩)
  (λy A=>(n.2.2 y A).keep λq a A=>by
   have D:aJ bv xs q/\(B<=q/\q<W.heap.size\/b<=q/\q<g):=by
    rcases a.1 with h|h
    ·exact⟨h.2.2,.inl ⟨h.1,h.2.1⟩⟩
    exact⟨F q (by omega),.inr h⟩
   refine⟨⟨?_,qi t z D.1 (λe=>by have:=l q e.symm;have:=D.2;omega),a.2⟩,A,rfl⟩;rcases D.2 with h|h
   ·exact .inl (.inl h)
   exact .inr h)
 exact G.m λq a=>by omega
theorem iC.nd {B d:Nat} {bv:Value} {xs:List bQ} {W:World} (h:iC B d bv xs W) {k i:Nat} (g:k<xs.length) (l:i<xs[k].ps.length) (c:Bool) (m:(rowA c xs[k].ps[i]).2.length<=1048576):Si d (λq=>B<=q/\q<W.heap.size/\aJ bv xs q) (rowA c xs[k].ps[i]).2 (rowA c xs[k].ps[i]).1 W:=by
 have f:rowA c xs[k].ps[i]∈bI xs:=zGn.2 ⟨xs[k],zFe g,zGn.2 ⟨xs[k].ps[i],zFe l,by cases c<;>simp[rowA,dQ]⟩⟩;have e:=h.mO _ f;obtain⟨A,c',n,j⟩:=aK e;rw[n]at e⊢;exact⟨A,c',rfl,fM e,λy a=>(h.kids _ f y a).keep λb hb a=>⟨⟨hb.1,a,hb.2⟩,a,rfl⟩,m,j⟩
def KP (b:dL):Nat×Int×List (Nat×Int):=(b.id,b.window,b.ps.map λp=>(p.form,p.type))
def okSg (s:Nat×Int×List (Nat×Int)):Prop:=(0<=s.2.1/\s.2.1<=1152921504606846976)/\(0<s.2.2.length/\s.2.2.length<=8)/\(∀x l,s.2.2=x::l->x.1≠3)/\∀x∈s.2.2,(1<=x.1/\x.1<=3)/\0<=x.2
structure qy (N:Nat) (bs:List dL):Prop where
 nb:bs.length<=4
 ids:(bs.map (λb:dL=>b.id)++[4]).Pairwise (·<·)
 sg:∀b∈bs,okSg (KP b)
 rows:∀b∈bs,∀p∈b.ps,p.gs.length<=N/\p.cs.length<=N/\(p.form=3->p.cs=[])
def sgOf (s:Nat×Int×Value×List (Nat×Int)):Nat×Int×List (Nat×Int):=(s.1,s.2.1,s.2.2.2)
theorem VR (d:Nat) (b:bQ):KP (fJ d b)=sgOf (Xx b):=by
 unfold KP fJ sgOf Xx partT;simp
theorem yz {xs a:List bQ} (h:mX xs=mX a):xs.length=a.length:=by simpa[mX]using zGv List.length h
theorem wR {xs a:List bQ} (h:mX xs=mX a) {k:Nat} (c:k<a.length):∃b:k<xs.length,xs[k].id=a[k].id/\xs[k].window=a[k].window/\xs[k].parts=a[k].parts/\xs[k].ps.length=a[k].ps.length/\(xs[k].ps.map λp=>(p.form,p.type))=a[k].ps.map λp=>(p.form,p.type):=by
 have b:k<xs.length:=by rw[yz h];exact c
 have e:Xx xs[k]=Xx a[k]:=by
  have d:(mX xs)[k]? =(mX a)[k]? :=by rw[h]
  simpa[mX,c,b]using d
 unfold Xx at e;injection e with e1 e
 injection e with e2 e
 injection e with e3 e4
 exact⟨b,e1,e2,e3,by simpa using zGv List.length e4,e4⟩
theorem qy.of {d N g:Nat} {xs c:List bQ} (h:qy N (c.map (fJ d))) (f:mX xs=mX c) (s:Gx g xs):qy g (xs.map (fJ d)):=by
 have u:=yz f;refine⟨by have:=h.nb;simpa[u]using this,?_,λb hb=>?_,λb hb p n=>?_⟩
 ·have e:(xs.map (fJ d)).map (λb=>b.id)=(c.map (fJ d)).map λb=>b.id:=by
   have:(mX xs).map Prod.fst=(mX c).map Prod.fst:=by rw[f]
   simpa[mX,Xx,fJ,zHh,Function.comp_def]using this
  rw[e];exact h.ids
 ·obtain⟨x,a,rfl⟩:=zGa.1 hb;have j:Xx x∈mX c:=by rw[<-f];exact zGa.2 ⟨x,a,rfl⟩
  obtain⟨y,i,t⟩:=zGa.1 j;rw[VR,<-t,<-VR d];exact h.sg _ (zGa.2 ⟨y,i,rfl⟩)
 obtain⟨x,a,rfl⟩:=zGa.1 hb;obtain⟨q,o,rfl⟩:=zGa.1 n;obtain⟨l,r,m⟩:=s x a q o;exact⟨by simpa[partT]using l,by simpa[partT]using r,λk=>by simp[partT,m k]⟩
theorem Gx.of {d N:Nat} {xs:List bQ} (h:qy N (xs.map (fJ d))):Gx N xs:=λb hb p e=>by
 obtain⟨c,f,g⟩:=h.rows (fJ d b) (zGa.2 ⟨b,hb,rfl⟩) (partT d p) (zGa.2 ⟨p,e,rfl⟩);exact⟨by simpa[partT]using c,by simpa[partT]using f,λa=>by simpa[partT]using g a⟩
theorem qy.more {N c:Nat} {bs:List dL} (h:qy N bs) (d:N<=c):qy c bs:=⟨h.nb,h.ids,h.sg,λb hb p a=>⟨zFi (h.rows b hb p a).1 d,zFi (h.rows b hb p a).2.1 d,(h.rows b hb p a).2.2⟩⟩
theorem qy.ps {N:Nat} {bs:List dL} (h:qy N bs) {b:dL} (hb:b∈bs):0<b.ps.length/\b.ps.length<=8:=by simpa[KP]using(h.sg b hb).2.1
abbrev sF:Spec:=.st (λv _=>∃A n c,v=.slice A n c) λ_ _ _ _ h=>h
def Ol (d N:Nat) (ax:Int) (ks:List Int) (w:World) (e:Ending) (w':World):Prop:=∃(cs':List Value) (bs':List dL),e=.returned (.agg cs'.toArray)/\dO d (λq=>w.heap.size<=q) ax ks bs' cs' w'/\qy N bs'/\Below w w w'
theorem iC.brS {S:Nat->Prop} {B d:Nat} {bv:Value} {bs:List bQ} {W:World} (h:iC B d bv bs W) (w:∀z∈bI bs,z.2.length<=1048576) (m:∀q,B<=q->S q) {b:bQ} (l:b∈bs) (v:b.ps.length<=1000000000000):xh d S (fJ d b) b.cells W:=by
 have e:=h.prt b l;obtain⟨r,o,k,_⟩:=aK e;rw[k]at e;refine⟨b.parts,rfl,r,o,by rw[k];show _=Value.slice r (b.ps.map (partT d)).length o;rw[zF5],by show(b.ps.map (partT d)).length<=_;rw[zF5];exact v,b.ps.map λp=>(partT d p,p.cells),by rw[zHh];rfl,?_,λq u=>?_⟩
 ·rw[zHw];exact(gX e).keep λb hb a=>⟨m b hb,a,rfl⟩
 obtain⟨p,n,rfl⟩:=zGa.1 u;have i:∀z∈dQ p,z∈bI bs:=λz i=>zGn.2 ⟨b,l,zGn.2 ⟨p,n,i⟩⟩
 have j:∀z∈dQ p,Nd d S (z.2.map (eP d)) z.1 W:=λz f=>by
  have e:=h.mO z (i z f);obtain⟨A,c,s,_⟩:=aK e;rw[s]at e;exact⟨A,c,z.2,s,(gX e).keep λb hb a=>⟨m b hb,a,rfl⟩,λy t=>(h.kids z (i z f) y t).keep λb hb a=>⟨m b hb.1,a,rfl⟩,rfl,w z (i z f)⟩
 exact⟨p.g,p.c,rfl,j (p.g,p.gs) (by simp[dQ]),j (p.c,p.cs) (by simp[dQ])⟩
theorem iC.rowS {S:Nat->Prop} {B d:Nat} {bv:Value} {bs:List bQ} {W:World} (h:iC B d bv bs W) (l:bs.length<=1000000000000) (i:∀b∈bs,b.ps.length<=1000000000000) (k:∀z∈bI bs,z.2.length<=1048576) (c:∀q,B<=q->S q):Sl (xh d) S (bs.map (fJ d)) bv W:=by
 have e:=h.dJ;obtain⟨g,f,rfl,_⟩:=aK e;refine⟨g,f,by rw[zF5],by rw[zF5];exact l,bs.map λb=>(fJ d b,b.cells),by rw[zHh];rfl,?_,λq j=>?_⟩
 ·rw[zHw];exact(gX e).keep λb hb a=>⟨c b hb,a,rfl⟩
 obtain⟨b,a,rfl⟩:=zGa.1 j;exact h.brS k c a (i b a)
theorem iC.plan {d N B:Nat} {ax:Int} {ks:List Int} {c bv:Value} {xs:List bQ} {w:World} {S S':Nat->Prop} (h:iC B d bv xs w) (l:Sl gK S ks c w) (i:∀q,S q->S' q) (k:∀q,B<=q->S' q) (f:qy N (xs.map (fJ d))) (g:N<=1048576):dO d S' ax ks (xs.map (fJ d)) [.int .i64 ax,c,bv] w:=by
 have n:=Gx.of f;refine⟨c,bv,rfl,l.keep λb hb e=>⟨i b hb,e,rfl⟩,h.rowS (by have:=f.nb;simp at this;omega) (λb hb=>?_) (λz a=>?_) k⟩
 ·have:=(f.ps (zGa.2 ⟨b,hb,rfl⟩)).2;simp[fJ]at this;omega
 obtain⟨b,hb,a⟩:=zGn.1 a;obtain⟨p,m,a⟩:=zGn.1 a;obtain⟨j,o,_⟩:=n b hb p m;simp only[dQ,zF6,zGi,zHt]at a;rcases a with rfl|rfl
 ·exact zFi j g
 exact zFi o g
theorem Y6 {d g:Nat} {j f:Nat->Prop} {ns:List ah} {A:Option Addr} {l c:Nat} {w:World} {op kind vk pos a:Int} {vb:Nat} (h:Bd j g 122 7 (Hy d) ns (.slice A l c) w) (k:ns.length=l) (r:l<=1048576) (p:vb<18446744073709551616) (s:∀q,j q->f q) (m:∀q,g<=q->f q):okS f (d+1) (.mk op kind A c ns vk vb pos a) w:=by
 obtain⟨i,n⟩:=h.nv;rw[k]at i;exact⟨(gX i).keep λb hb e=>⟨m b hb,e,rfl⟩,by rw[k];exact r,p,λx o=>(n x o).keep λb hb e=>⟨s b hb.1,e,rfl⟩⟩
theorem WE (d:Nat) (ih:∀(S:Nat->Prop) (n:ah) (p:Int) (w:World),okS S d n w->Calls prog 50 #[.agg n.cells.toArray,p] w (FoW d S w))
  (S:Nat->Prop) (op kind:Int) (A:Option Addr) (c:Nat) (f:List ah) (vk:Int) (vb:Nat) (pos a p:Int) (w:World) (h:okS S (d+1) (.mk op kind A c f vk vb pos a) w):
  Calls prog 50 #[.agg #[op,kind,.slice A f.length c,vk,.int .u64 vb,pos,a],p] w (FoW (d+1) S w):=by
 have HI:=zH ih;have h:=h.keep (S':=λq=>S q/\q<w.heap.size) λb hb r=>⟨⟨hb,r⟩,r,rfl⟩
 have z:=(Bk.new w 122 #[op,kind,.slice A f.length c,vk,.int .u64 vb,pos,a]).alloc (.cells #[(),(),"",(),.int .u64 0,(),()] 122);have B:=Bk.newAt (w:=w.alloc (.cells #[op,kind,.slice A f.length c,vk,.int .u64 vb,pos,a] 122)) (g:=w.heap.size+1) (by simp) 122 #[(),(),"",(),.int .u64 0,(),()];have s:=bel2 w (.cells #[op,kind,.slice A f.length c,vk,.int .u64 vb,pos,a] 122) (.cells #[(),(),"",(),.int .u64 0,(),()] 122);clear ih
 go_enter func50,ntmps50
 go_upto_region 1 with fail
 generalize(w.alloc (.cells #[op,kind,.slice A f.length c,vk,.int .u64 vb,pos,a] 122)).alloc (.cells #[(),(),"",(),.int .u64 0,(),()] 122)=m at *;have D:=zH (h.keep (dB.old s));have Tm:=B.lt;obtain⟨l,O⟩:=zN f.length
 have HL:=zH O;rw[O]at z⊢;clear O h;go_upto_region 2 with(first|(refine aj dR rfl _ rfl rfl [.int .i64 op,.int .i64 kind,.slice A l c,.int .i64 vk,.int .u64 vb,.int .i64 pos,.int .i64 a] rfl (nd0 z) ?_)|(refine ae (aY dR.1) rfl _ _ rfl rfl [.int .i64 op,.int .i64 kind,.slice A l c,.int .i64 vk,.int .u64 vb,.int .i64 pos,.int .i64 a] rfl (Bk.new _ _ _) rfl rfl rfl ?_;intro W1 p1;go_frame))
 have y:Below m m W1:=p1.below _ _ (ba _ _) zL;have t:W1.heap.size=m.heap.size+1:=by rw[p1.size];simp
 have Z:=p1.bk.cell 2;have G:=p1.bk.frozen 2;have E:=p1.bk.put 2 (.slice none 0 0);have e:=y.setCell (p:=⟨m.heap.size,2,none⟩) zL (.slice none 0 0);have a9:(W1.setCell ⟨m.heap.size,2,none⟩ (.slice none 0 0)).heap.size=m.heap.size+1:=by simpa using t
 have y2:=(z.old e).cell 2;go_upto_region 4 with fail
 generalize W1.setCell ⟨m.heap.size,2,none⟩ (.slice none 0 0)=F at *;have N:=zH (zA (z.old e) (zA (B.old e) (zA E (s.trans (e.mono s.size)))));have H:=zH (D.keep (dB.old e));have a4:l<=1048576:=by rw[<-HL.out];exact H.2.1
 have a7:=s.size;clear p1 y e E z B s Z G y2 D t;go_wp2_with fail
 go_loopw[6,12] (λ_ i wr=>∃(k:Nat) (ns:List ah) (v:Value),k<=l/\i=.int .i64 k/\Hid (ns.length=k/\F.grownBy wr (some m.heap.size)/\Bk wr m.heap.size 122 #[op,kind,v,vk,.int .u64 vb,pos,a]/\Bd (λq=>(S q/\q<w.heap.size)\/F.heap.size<=q) F.heap.size 122 7 (Hy d) ns v wr)) (λ_ i _=>l-(intOf i).toNat)
 case atStart=>exact⟨0,[],_,zFj _,rfl,zH ⟨rfl,zF8 _ _,N.2.2.1,Bd.nil zL⟩⟩
 case round=>
  obtain⟨k,ns,v,hk,rfl,y⟩:=hrel;obtain⟨B,rfl⟩:∃z:World,z=wr:=⟨_,rfl⟩
  obtain⟨t,s,rfl,_⟩:=y.2.2.2.form;have e:=y.1;have z:=zH e;rw[e]at y;clear e;have a3:=y.2.1.size
  by_cases r:k<l
  ·have G:k<f.length:=by rw[HL.out];exact r
   have e:dB (λq=>S q/\q<w.heap.size) (λq=>S q/\q<w.heap.size) F B:=dB.gV y.2.1 λb hb=>by omega
   obtain⟨b,o,L,I,hb,W⟩:∃b o,A=some ⟨b,o,none⟩/\(S b/\b<w.heap.size)/\b<B.heap.size/\∀(j:Nat) (u:Value),f[k].cells[j]? =some u->B.cell? ⟨b,o+k*7+j,none⟩=some u:=by
    rcases(H.keep e).1 with M|⟨b,o,K,J,E,D⟩
    ·have:=jl (n:=7) ah.cells f λx _=>x.len
     rw[M]at this;simp at this;omega
    exact⟨b,o,K,J,E,λj u Q=>by
     rw[zJb]
     exact D _ _ (by rw[jd (n:=7) ah.cells f (λx _=>x.len) k j G (by have:=(zFc.1 Q).1;rwa [ah.len]at this)];exact Q)⟩
   subst L;have X:Hid (∀w',Below B B w'->Calls prog 50 #[.agg f[k].cells.toArray,p] w' (FoW d (λq=>S q/\q<w.heap.size) w')):=zH λw' D=>HI.out _ f[k] p w' (((H.keep e).2.2.2 _ (zFe G)).keep (dB.old D))
   obtain⟨cs,D⟩:=zN (f[k].cells)
   rw[D]at W X;have P:cs.length=7:=by rw[<-D];exact ah.len _
   clear D I e;have I:=y.2.2.1;have D:=(N.1.grown y.2.1 (by simp;omega))
   have Z:B.cell? ⟨m.heap.size,2,none⟩=some (.slice t k s):=I.cell 2;have y2:B.cell? ⟨w.heap.size,2,none⟩=some (.slice (some ⟨b,o,none⟩) l c):=D.cell 2;go_upto_region 6 with fail
   refine wx (λ_=>false) [.is (.pointer (some ⟨m.heap.size,2,none⟩)),.is (.slice t k s),.is (.pointer (some ⟨w.heap.size,2,none⟩)),.is (.slice (some ⟨b,o,none⟩) l c),.is (.int .i64 k),.is (.pointer (some ⟨b,o+k*7,none⟩)),.is (.agg cs.toArray),.is (.int .i64 p),
    .st (λv w'=>∃n:ah,v=.agg n.cells.toArray/\okS (λq=>(S q/\q<w.heap.size)\/B.heap.size<=q) d n w') (λ_ _ _ hb ⟨n,K,J⟩=>⟨n,K,J.keep (dB.old hb)⟩),
    .st (λv w'=>∃(g:Nat) (n:ah),v=.slice (some ⟨g,0,none⟩) 1 1/\Bk w' g 122 n.cells.toArray/\okS (λq=>(S q/\q<w.heap.size)\/B.heap.size<=q) d n w') (λ_ _ _ hb ⟨g,n,K,J,E⟩=>⟨g,n,K,J.old hb,E.keep (dB.old hb)⟩)] [5,6,8,9] (by kernel_rfl) (by kernel_rfl) (by kernel_rfl)
    (λC=>.c (px C rfl (λ_ _=>rfl)) <| .c (px C rfl (λ_ h=>bH (jD (bc h Z)))) <| .c (px C rfl (λ_ _=>rfl)) <| .c (px C rfl (λ_ h=>bH (jD (bc h y2)))) <| .c (px C rfl (λ_ _=>rfl)) <|
     .c (pz [3,4] [] (by kernel_rfl) λU R wr M e E L=>?_) <| .c (pz [5] [] (by kernel_rfl) λU R wr M e E L=>?_) <| .c (px C rfl (λ_ _=>rfl)) <| .c (pz [6,7] [] (by kernel_rfl) λU R wr M e E L=>?_) <| .c (pz [8] [] (by kernel_rfl) λU R wr M e E L=>?_) .nil) ?_
   ·have U:=aA E.1 rfl rfl;have a0:=aA E.2.1 rfl rfl;clear e E;go_simp;refine L _ _ zR ?_
    show(_:Value)=_
    first|rfl|(simp;done)|(simp;omega)
   ·exact jw dR (.tmp 20) rfl (aB (aA E.1 rfl rfl)) cs P (λi u Q=>(bc M (W i u Q))) (L _ _ zR rfl)
   ·have Y:=aA E.1 rfl rfl;have R:=aA E.2.1 rfl rfl;clear e E;go_simp
    go_at_call 50
    refine(X.out wr M).mono ?_;rintro e w2 ⟨n,rfl,K,J⟩
    exact L _ _ J ⟨n,rfl,K.keep λq Q r=>⟨by
     rcases Q with h|h
     ·exact .inl h
     exact .inr (zFi M.size h),r,rfl⟩⟩
   ·obtain⟨u23,M,n,rfl,hn⟩:=E.1;exact pI dR (.tmp 23) rfl n.cells (aB M) (ah.len n) (L _ _ (ba _ _) ⟨_,n,rfl,Bk.new _ _ _,hn.keep (dB.old (ba _ _))⟩)
   intro qx w8 zy K E;obtain⟨g,n,J,k9,hn⟩:=K 9 rfl rfl;clear K E;simp only[bJ,List.length,List.take,List.drop,zFd]
   go_frame
   generalize qx 9=z9 at J⊢;subst J;have a8:=zy.size;have hs:=y.2.2.2.old zy;have a2:=I.old zy
   have a0:some m.heap.size≠(Value.slice t k s).ownBlock:=λe=>by
    have:=(y.2.2.2.lt e.symm).1;omega
   have E:Hy d (λq=>((S q/\q<w.heap.size)\/F.heap.size<=q)/\some q≠(Value.slice t k s).ownBlock) n n.cells w8:=⟨rfl,hn.keep λq Q O=>⟨⟨by
    rcases Q with h|h
    ·exact .inl h
    ·exact .inr (by omega),λe=>by
    have:=y.2.2.2.lt e.symm
    rcases Q with h|h<;>omega⟩,O,rfl⟩⟩
   have yS:=zH E;have Qk:Below F.heap.size B w8:=zy.mono a3;clear hn W X P Z y2 E;go_wp2_with (at_builtin;refine bu dR rfl _ _ rfl rfl hs rfl n.cells k9 n yS.out (by rw[z.out];omega) (by omega) ?_;intro A9 c9 w9 h9 J E L;rw[z.out]at h9 L⊢;have K:=a2.grown E a0;have z9:=K.cell 2;have f9:=K.frozen 2)
   have a5:Below F.heap.size B w9:=J _ _ zL (by omega) Qk;have HE:=zH (zA (eu (i:=2) (v:=.slice A9 (k+1) c9) (dD y.2.1 a5)) (zA (K.put 2 (.slice A9 (k+1) c9)) (h9.set (p:=⟨m.heap.size,2,none⟩) (.slice A9 (k+1) c9) (λb hb=>by show b≠m.heap.size;omega) (by show m.heap.size<F.heap.size;omega))));clear J E L;go_roundw
   case rel=>exact⟨k+1,ns++[n],_,r,by go_num,zH ⟨by simp[z.out],HE.1,HE.2.1,HE.2.2⟩⟩
   case measure=>simp[intOf];omega
  obtain rfl:l=k:=by omega
  have I:=y.2.2.1;have D:=N.1.grown y.2.1 (by simp;omega);have W:=N.2.1.grown y.2.1 (by simp;omega);have J:Hid (Below w w B):=zH (N.2.2.2.grown y.2.1 (by omega) λk hk=>by injection hk with hk;omega);have E:vb<18446744073709551616:=H.2.2.1;have HO:Hid (∀op pos:Int,okS (λq=>(S q/\q<w.heap.size)\/F.heap.size<=q) (d+1) (.mk op kind t s ns vk vb pos a) B):=zH λop pos=>Y6 y.2.2.2 z.out a4 E (λq h=>h) (λq h=>.inr h)
  have x0:=D.cell 0;have x5:=D.cell 5;clear E D
  by_cases X:op=42
  ·subst X
   by_cases hp:pos=p
   ·subst hp;have f0:=I.frozen 0;have g0:=I.cell 0;have k6:=I.put 0 (.int .i64 41);have f6:=k6.frozen 5;have g6:=k6.cell 5;have k7:=k6.put 5 (.int .i64 0);have W:=(W.far (p:=⟨m.heap.size,0,none⟩) (by show w.heap.size+1≠m.heap.size;omega) (.int .i64 41)).far (p:=⟨m.heap.size,5,none⟩) (by show w.heap.size+1≠m.heap.size;omega) (.int .i64 0);have a1:=zH (((HO.out 41 0).keep (dB.set (p:=⟨m.heap.size,0,none⟩) (v:=.int .i64 41) λb hb=>⟨hb,by show b≠m.heap.size;omega⟩)).keep (dB.set (p:=⟨m.heap.size,5,none⟩) (v:=.int .i64 0) λb hb=>⟨hb,by show b≠m.heap.size;omega⟩));have a6:=zH ((J.setCell (p:=⟨m.heap.size,0,none⟩) (by show w.heap.size<=m.heap.size;omega) (.int .i64 41)).setCell (p:=⟨m.heap.size,5,none⟩) (by show w.heap.size<=m.heap.size;omega) (.int .i64 0));go_wp2_with (first|(refine aj dR rfl _ rfl rfl [.int .i64 41,.int .i64 kind,.slice t l s,.int .i64 vk,.int .u64 vb,.int .i64 0,.int .i64 a] rfl (nd0 k7) ?_)|(refine ae (aY dR.1) rfl _ _ rfl rfl [.int .i64 41,.int .i64 kind,.slice t l s,.int .i64 vk,.int .u64 vb,.int .i64 0,.int .i64 a] rfl W rfl rfl rfl ?_;intro V E))
    obtain⟨Q,R,P,Y,M,L,U⟩:=Xy E.bk
    exact zFg (v:=.agg #[.int .i64 41,kind,.slice t l s,vk,.int .u64 vb,(),a]) (by simp[results,results50,go_sem,Q,R,P,Y,M,L,U]) rfl ⟨.mk 41 kind t s ns vk vb 0 a,by simp[ah.cells,z.out],(a1.keep (dB.fE E λb hb=>by omega)).keep λb hb r=>⟨by
     rcases hb with h|h
     ·exact .inl h.1
     exact .inr (by omega),r,rfl⟩,E.below _ _ a6.out (by omega)⟩
   have Lm:(pos==p)=false:=by rw[zFz];exact hp
   go_wp2_with (first|(refine aj dR rfl _ rfl rfl [.int .i64 42,.int .i64 kind,.slice t l s,.int .i64 vk,.int .u64 vb,.int .i64 pos,.int .i64 a] rfl (nd0 I) ?_)|(refine ae (aY dR.1) rfl _ _ rfl rfl [.int .i64 42,.int .i64 kind,.slice t l s,.int .i64 vk,.int .u64 vb,.int .i64 pos,.int .i64 a] rfl W rfl rfl rfl ?_;intro V E))
   obtain⟨Q,R,P,Y,M,L,U⟩:=Xy E.bk
   exact zFg (v:=.agg #[.int .i64 42,kind,.slice t l s,vk,.int .u64 vb,pos,a]) (by simp[results,results50,go_sem,Q,R,P,Y,M,L,U]) rfl ⟨.mk 42 kind t s ns vk vb pos a,by simp[ah.cells,z.out],((HO.out 42 pos).keep (dB.fE E λb hb=>by omega)).keep λb hb r=>⟨by
    rcases hb with h|h
    ·exact .inl h.1
    exact .inr (by omega),r,rfl⟩,E.below _ _ J.out (by omega)⟩
  have a1:(op==42)=false:=by rw[zFz];exact X
  go_wp2_with (first|(refine aj dR rfl _ rfl rfl [.int .i64 op,.int .i64 kind,.slice t l s,.int .i64 vk,.int .u64 vb,.int .i64 pos,.int .i64 a] rfl (nd0 I) ?_)|(refine ae (aY dR.1) rfl _ _ rfl rfl [.int .i64 op,.int .i64 kind,.slice t l s,.int .i64 vk,.int .u64 vb,.int .i64 pos,.int .i64 a] rfl W rfl rfl rfl ?_;intro V E))
  obtain⟨Q,R,P,Y,M,L,U⟩:=Xy E.bk
  exact zFg (v:=.agg #[op,kind,.slice t l s,vk,.int .u64 vb,pos,a]) (by simp[results,results50,go_sem,Q,R,P,Y,M,L,U]) rfl ⟨.mk op kind t s ns vk vb pos a,by simp[ah.cells,z.out],((HO.out op pos).keep (dB.fE E λb hb=>by omega)).keep λb hb r=>⟨by
   rcases hb with h|h
   ·exact .inl h.1
   exact .inr (by omega),r,rfl⟩,E.below _ _ J.out (by omega)⟩
theorem WG:∀(d:Nat) (S:Nat->Prop) (n:ah) (p:Int) (w:World),okS S d n w->Calls prog 50 #[.agg n.cells.toArray,p] w (FoW d S w)
 |0,_,_,_,_,h=>h.elim
 |d+1,S,.mk op kind A c b vk vb pos a,p,w,h=>WE d (WG d) S op kind A c b vk vb pos a p w h
end Go.Proofs.YtbjnhllkdilpfaaGreat
